/- Merged texts of one road: Prx, LayM, Pry, Prz. Conditions: each text's own. -/
import Derived.Test.YteicjpedahoilaaDoorB07
import Derived.Test.YteicjpedahoilaaDoorB03
import Derived.Shelf.LaysM
import Derived.Test.YteicjpedahoilaaDoorB02
import Derived.Shelf.Strconv.Itoa3
set_option linter.unusedSimpArgs false
set_option linter.unusedVariables false
namespace Go.Rk
open Go Go.RowKit
set_option linter.unusedVariables false
/-- A contract of a method that prints a tree. -/
def PrOk (f : Nat) (tx : Nd → Nat → List UInt8) (t : Nd) : Prop := ∀ (p : Option Addr) (c : Nat) (D : Nat → Prop) (n0 b : Nat) (l : List UInt8) (k : Nat) (w : World), Kd w D t.kids (.slice p t.kids.length c) → (∀ x, D x → x < n0) → Prn n0 b l k w →
  l.length + (tx t k).length < 100000000 → k + count t ≤ 1000000 → Ret PP f #[.pointer (some ⟨b, 0, none⟩), ndV t (.slice p t.kids.length c)] w (Wr n0 b l (tx t k) k w)
structure POk (t : Nd) : Prop where
  ex : exprB t = true → okNd t → PrOk fn_syntax_printer_expr exT t
  st : pstB t = true → okNd t → PrOk fn_syntax_printer_stmt pst t
/-- A store elsewhere leaves a tree alone. -/
theorem Kd.st {n0 : Nat} {w w' : World} {D : Nat → Prop} {ks : List Nd} {v : Value} {j : Nat} (h : Kd w D ks v) (hg : w.grownBy w' (some j)) (hD : ∀ x, D x → x < n0) (hj : n0 ≤ j) : Kd w' D ks v :=
  h.keep hg fun b hb _ e => by injection e with e; have := hD b hb; omega
def PBel (t : Nd) : Prop := ∀ k, count k < count t → POk k
theorem PBel.kid {t : Nd} (ih : PBel t) {i : Nat} (h : i < t.kids.length) : POk (kidAt t i) := ih _ (count_kidAt h)
theorem td_call0 {P : Program} {n : Nat} {σ : List Ent} {fn : Func} {R : Value → World → Prop} {Rp : List PanicEntry → World → Prop} {ds : List Deferred} {w : World} {f : Nat} {args : Array Value} {R' : Value → World → Prop} (hgo : goFn P f = true) (hC : RetB P f args w R') (h : ∀ v w', R' v w' → ∀ a, Kn n σ a → TD P fn R Rp ds a w') : ∀ a, Kn n σ a → TD P fn R Rp (fnD f #[] args :: ds) a w :=
  td_call hgo (by rw [Array.append_empty]; exact hC) h
theorem inner_ok {t : Nd} (ex : PrOk fn_syntax_printer_expr exT t) (ks : List Int) (b2 c2 : Nat) {p : Option Addr} {c : Nat} {D : Nat → Prop} {n0 b : Nat} {l : List UInt8} {k : Nat} {w : World} (hk0 : Kd w D t.kids (.slice p t.kids.length c)) (hD : ∀ x, D x → x < n0) (hP : Prn n0 b l k w)
    (hR : Blk w b2 ty_int (ks.map (Value.int .i64))) (hks : ks.length ≤ 1000) (hlen : l.length + (parX (memK ks t.kind) (exT t k)).length < 100000000) (hc : k + count t ≤ 1000000) :
    Ret PP fn_syntax_printer_inner #[.pointer (some ⟨b, 0, none⟩), ndV t (.slice p t.kids.length c), .slice (some ⟨b2, 0, none⟩) ks.length c2] w (Wr n0 b l (parX (memK ks t.kind) (exT t k)) k w) := by
  have g := PF.refl n0 b w
  have hbn := hP.ge
  refine ret_of_scd (m := 19) func_syntax_printer_inner rfl rfl [(0, True, _), (1, True, _), (2, True, _)] (sub_cons rfl (sub_cons rfl (sub_cons rfl (sub_nil _)))) ?_
  refine scd_seq fun K1 hK1 => ?_
  refine scd_text [1] ?_
  refine sr_box rfl (ev_t rfl) rfl ?_
  intro b4 w4 N4
  have l4 := newge N4 g.size
  have g := g.trans (PF.of_g (N4.g))
  have hP := hP.grow (N4.g)
  have hk0 := hk0.grow (N4.g)
  try have hR := hR.grow (N4.g)
  have B4 := N4.blk
  refine sr_sub [(0, _, _), (2, _, _), (4, _, _)] (sub_cons rfl (sub_cons rfl (sub_cons rfl (sub_nil _)))) ?_
  refine sr_nil (hK1 _ _ _ ?_)
  refine scd_seq fun K2 hK2 => ?_
  refine scd_seq fun K3 hK3 => ?_
  skip
  refine scd_draw [3, 1, 3, 0, 1] [true, true, false, false, true] [0, 1, 0, 4, 15] mix (by kernel_rfl) ?_
  have g := g.trans (PF.of_g (G.drew _))
  replace B4 := B4.grow (G.drew _)
  have hP := hP.grow (G.drew _)
  have hk0 := hk0.grow (G.drew _)
  try have hR := hR.grow (G.drew _)
  have C4 := B4
  refine sr_pu rfl (fun _ => rd_move (ev_t rfl)) ?_
  refine sr_call rfl (rc_call go_syntax_among ev_f (args_cons (ev_t rfl) (args_nil)) rfl) (among_ok ks _ _ _ _ hR.row hks) ?_
  rintro v7 w7 ⟨hA7, k7⟩
  refine ⟨fun _ => k7, ?_⟩
  obtain ⟨f7, fs7, cs7, rfl, hgo7, hf7⟩ := hA7
  have g := g.trans (PF.of_g k7)
  have hP := hP.grow k7
  have hk0 := hk0.grow k7
  replace B4 := B4.grow k7
  have gm7 := G.refl w7
  refine sr_pu rfl (fun _ => rd_field fo_api_Node_0 (ev_t rfl)) ?_
  refine sr_rd0 rfl (rd_load one_int (ev_t rfl) (fun _ => C4.at_ rfl)) ?_
  refine sr_pure rfl (rc_call hgo7 (ev_t rfl) (args_cons (ev_t rfl) (args_nil)) rfl) (hf7 t.kind _ gm7) (fun w10 g10 => ?_)
  have g := g.trans (PF.of_g (g10))
  replace B4 := B4.grow (g10)
  have hP := hP.grow (g10)
  have hk0 := hk0.grow (g10)
  try have hR := hR.grow (g10)
  refine sr_sub [(0, _, _), (4, _, _), (10, _, _)] (sub_cons rfl (sub_cons rfl (sub_cons rfl (sub_nil _)))) ?_
  refine sr_nil (hK3 _ _ _ ?_)
  refine scd_cond (ev_t rfl) (fun h1 => ?_) (fun h1 => ?_)
  · have e : parX (memK ks t.kind) (exT t k) = ([40] ++ exT t k) ++ [41] := by rw [h1]; rfl
    rw [e] at hlen
    refine scd_seq fun K4 hK4 => ?_
    refine scd_text [3, 1, 2] ?_
    refine sr_pu rfl (fun _ => rd_move (ev_t rfl)) ?_
    refine sr_buildSlice [_] rfl el_sl_string ze_string (parts_cons ev_c (parts_nil)) rfl rfl ?_
    intro b12 w12 N12
    have x12_4 := N12.ne B4
    have l12 := newge N12 g.size
    have g := g.trans (PF.of_g (N12.g))
    replace B4 := B4.grow (N12.g)
    have hP := hP.grow (N12.g)
    have hk0 := hk0.grow (N12.g)
    try have hR := hR.grow (N12.g)
    have B12 := N12.blk
    refine sr_call rfl (rc_call go_syntax_printer_write ev_f (args_cons (ev_t rfl) (args_cons (ev_t rfl) (args_nil))) rfl) (write_ok [[40]] hP B12 (by omega) (by first | omega | (simp only [List.length_append, List.length_cons, List.length_nil, List.flatten_cons, List.flatten_nil, List.append_nil, tabsL, List.length_replicate]; omega) | (simp at hlen ⊢ <;> omega)) (by first | rfl | (simp [ht]; done) | (simpa using ht)) (Nat.le_of_ble_eq_true rfl)) ?_
    rintro v13 w13 ⟨rfl, hP, g13⟩
    refine ⟨fun h => absurd h (by decide), ?_⟩
    have g := g.trans g13
    replace B4 := B4.pf g13 rfl (by omega)
    replace B12 := B12.pf g13 rfl (by omega)
    have hk0 := hk0.pf g13 hD
    refine sr_sub [(0, _, _), (4, _, _)] (sub_cons rfl (sub_cons rfl (sub_nil _))) ?_
    refine sr_nil (hK4 _ _ _ ?_)
    refine scd_text_defer (k := 2) [3, 1, 2] rfl rfl rfl ?_
    refine sr_pu rfl (fun _ => rd_move (ev_t rfl)) ?_
    refine sr_buildSlice [_] rfl el_sl_string ze_string (parts_cons ev_c (parts_nil)) rfl rfl ?_
    intro b15 w15 N15
    have x15_4 := N15.ne B4
    have x15_12 := N15.ne B12
    have l15 := newge N15 g.size
    have g := g.trans (PF.of_g (N15.g))
    replace B4 := B4.grow (N15.g)
    replace B12 := B12.grow (N15.g)
    have hP := hP.grow (N15.g)
    have hk0 := hk0.grow (N15.g)
    try have hR := hR.grow (N15.g)
    have B15 := N15.blk
    refine sr_nil (kdef_mk (rdd_call ev_f (args_cons (ev_t rfl) (args_cons (ev_t rfl) (args_nil)))) (hK2 _ _ _ ?_))
    refine scd_sub [(0, _, _), (4, _, _)] (sub_cons rfl (sub_cons rfl (sub_nil _))) ?_
    refine scd_text [3, 0, 2] ?_
    refine sr_pu rfl (fun _ => rd_move (ev_t rfl)) ?_
    refine sr_rd rfl (rd_loads agg_api_Node (ev_t rfl) rfl (fun _ => B4.row)) ?_
    refine sr_call rfl (rc_call go_syntax_printer_expr ev_f (args_cons (ev_t rfl) (args_cons (ev_t rfl) (args_nil))) rfl) (ex p c D n0 b _ k _ hk0 hD hP (by first | omega | (simp at hlen ⊢ <;> omega)) hc) ?_
    rintro v18 w18 ⟨rfl, hP, g18⟩
    refine ⟨fun h => absurd h (by decide), ?_⟩
    have g := g.trans g18
    replace B4 := B4.pf g18 rfl (by omega)
    replace B12 := B12.pf g18 rfl (by omega)
    replace B15 := B15.pf g18 rfl (by omega)
    have hk0 := hk0.pf g18 hD
    refine sr_sub [] (sub_nil _) ?_
    refine sr_nil (?_)
    first
      | (refine td_call0 go_syntax_printer_write (write_b [[41]] b15 0 _ hP B15.row (by omega) (blk_byr B15 rfl) (by simp at hlen ⊢ <;> omega) (by simp) (Nat.le_of_ble_eq_true rfl)) (fun v w' hv => ?_); obtain ⟨rfl, hP, gd⟩ := hv; have g := g.trans gd; refine td_end0 rfl ⟨rfl, ?_, g⟩; rw [e]; simpa using hP)
      | (refine td_end0 rfl ⟨rfl, ?_, g⟩; rw [e]; simpa using hP)
  have e : parX (memK ks t.kind) (exT t k) = exT t k := by rw [h1]; rfl
  rw [e] at hlen
  refine scd_skip (hK2 _ _ _ ?_)
  refine scd_sub [(0, _, _), (4, _, _)] (sub_cons rfl (sub_cons rfl (sub_nil _))) ?_
  refine scd_text [3, 0, 2] ?_
  refine sr_pu rfl (fun _ => rd_move (ev_t rfl)) ?_
  refine sr_rd rfl (rd_loads agg_api_Node (ev_t rfl) rfl (fun _ => B4.row)) ?_
  refine sr_call rfl (rc_call go_syntax_printer_expr ev_f (args_cons (ev_t rfl) (args_cons (ev_t rfl) (args_nil))) rfl) (ex p c D n0 b _ k _ hk0 hD hP (by first | omega | (simp at hlen ⊢ <;> omega)) hc) ?_
  rintro v18 w18 ⟨rfl, hP, g18⟩
  refine ⟨fun h => absurd h (by decide), ?_⟩
  have g := g.trans g18
  replace B4 := B4.pf g18 rfl (by omega)
  have hk0 := hk0.pf g18 hD
  refine sr_sub [] (sub_nil _) ?_
  refine sr_nil (?_)
  first
    | (refine td_call0 go_syntax_printer_write (write_b [[41]] b15 0 _ hP B15.row (by omega) (blk_byr B15 rfl) (by simp at hlen ⊢ <;> omega) (by simp) (Nat.le_of_ble_eq_true rfl)) (fun v w' hv => ?_); obtain ⟨rfl, hP, gd⟩ := hv; have g := g.trans gd; refine td_end0 rfl ⟨rfl, ?_, g⟩; rw [e]; simpa using hP)
    | (refine td_end0 rfl ⟨rfl, ?_, g⟩; rw [e]; simpa using hP)
theorem joinX_snoc (f : Nd → List UInt8) (ks : List Nd) (x : Nd) : joinX ((ks ++ [x]).map f) = joinX (ks.map f) ++ (bif decide ((0 : Int) < ks.length) then [44, 32] else []) ++ f x := by
  cases ks with
  | nil => simp [joinX]
  | cons a r =>
    rw [decide_eq_true (by first | (simp; done) | (simp; omega)), cond_true]
    simp [joinX, List.flatMap_append]
theorem joinX_le (f : Nd → List UInt8) (ks : List Nd) (i : Nat) : (joinX ((ks.take i).map f)).length ≤ (joinX (ks.map f)).length := by
  cases ks with
  | nil => simp
  | cons a r =>
    cases i with
    | zero => simp [joinX]
    | succ i =>
      have h : (((r.take i).map f).flatMap fun u => [44, 32] ++ u).length ≤ ((r.map f).flatMap fun u => [44, 32] ++ u).length := by
        conv => rhs; rw [← List.take_append_drop i r, List.map_append, List.flatMap_append, List.length_append]
        omega
      simp only [List.take_succ_cons, List.map_cons, joinX, List.length_append]
      omega
theorem sum_le (ks : List Nd) {i : Nat} (h : i < ks.length) : count ks[i] ≤ (ks.map count).sum := by
  have := sum_take_le (ks.map count) (i + 1)
  rw [← List.map_take, take_succ_map count ks i h, List.sum_append] at this
  simp at this; omega
theorem list_ok {ks : List Nd} {c : Nat} {p : Option Addr} {D : Nat → Prop} {n0 b : Nat} {l : List UInt8} {k : Nat} {w : World} (hex : ∀ x ∈ ks, PrOk fn_syntax_printer_expr exT x) (hk0 : Kd w D ks (.slice p ks.length c)) (hD : ∀ x, D x → x < n0) (hP : Prn n0 b l k w)
    (hlen : l.length + (joinX (ks.map fun y => exT y k)).length < 100000000) (hc : k + (ks.map count).sum ≤ 1000000) :
    Ret PP fn_syntax_printer_list #[.pointer (some ⟨b, 0, none⟩), .slice p ks.length c] w (Wr n0 b l (joinX (ks.map fun y => exT y k)) k w) := by
  have g := PF.refl n0 b w
  have hbn := hP.ge
  have hls := length_le_sum ks
  refine ret_of_sc (m := 22) func_syntax_printer_list rfl rfl [(0, True, _), (1, True, _)] (sub_cons rfl (sub_cons rfl (sub_nil _))) ?_
  refine sc_seq fun K1 hK1 => ?_
  refine sc_text [3, 3, 3] ?_
  refine sr_pu rfl (fun _ => rd_move (ev_t rfl)) ?_
  refine sr_pu rfl (fun _ => rd_len el_sl_api_Node (ev_t rfl)) ?_
  refine sr_pu rfl (fun _ => rd_move ev_c) ?_
  refine sr_sub [(0, _, _), (6, _, _), (7, _, _), (8, _, _)] (sub_cons rfl (sub_cons rfl (sub_cons rfl (sub_cons rfl (sub_nil _))))) ?_
  refine sr_nil (hK1 _ _ ?_)
  refine sc_block ?_
  refine sc_loop2 (fun (i : Nat) u1 => (i ≤ ks.length ∧ Prn n0 b (l ++ joinX ((ks.take i).map fun y => exT y k)) k u1 ∧ Kd u1 D ks (.slice p ks.length c)) ∧ PF n0 b w u1) [(0, True, _), (6, True, _), (7, True, _)] (fun (i : Nat) => [(8, True, .int .i64 i)]) (fun (i : Nat) => ks.length - i) (0) ⟨⟨Nat.zero_le _, by simpa [joinX] using hP, hk0⟩, PF.refl _ _ _⟩ (sub_cons rfl (sub_cons rfl (sub_cons rfl (sub_cons rfl (sub_nil _))))) ?_
  rintro i u1 ⟨hI1, gl1⟩
  have g := g.trans gl1
  obtain ⟨hi, hP, hk0⟩ := hI1
  refine sc_seq fun K2 hK2 => ?_
  refine sc_text [3] ?_
  refine sr_pu rfl (fun _ => rd_lt (ev_t rfl) (ev_t rfl)) ?_
  refine sr_nil (hK2 _ _ ?_)
  refine sc_sub [(0, _, _), (6, _, _), (7, _, _), (8, _, _), (9, _, _)] (sub_cons rfl (sub_cons rfl (sub_cons rfl (sub_cons rfl (sub_cons rfl (sub_nil _)))))) ?_
  refine sc_seq fun K3 hK3 => ?_
  refine sc_cond (ev_t rfl) (fun h1 => ?_) (fun h1 => ?_)
  · replace h1 : i < ks.length := by simp only [decide_eq_true_eq] at h1; omega
    obtain ⟨_, _, hpe, _, hks⟩ := id hk0
    obtain ⟨b9, o9, rfl, hD9, xs, hR, hX⟩ := hks (by omega)
    injection hpe with hpe _ hce
    subst hpe hce
    obtain ⟨p9, c9, hcell, hkid⟩ := kd_at hR hX h1
    have hjs := joinX_snoc (fun y => exT y k) (ks.take i) ks[i]
    rw [← take_step h1, show (ks.take i).length = i by rw [List.length_take]; omega] at hjs
    have hjl := joinX_le (fun y => exT y k) ks (i + 1)
    rw [hjs] at hjl
    have hcs := sum_le ks h1
    refine sc_skip (hK3 _ _ ?_)
    refine sc_sub [(0, _, _), (6, _, _), (7, _, _), (8, _, _)] (sub_cons rfl (sub_cons rfl (sub_cons rfl (sub_cons rfl (sub_nil _))))) ?_
    refine sc_seq fun K4 hK4 => ?_
    refine sc_block ?_
    refine sc_seq fun K5 hK5 => ?_
    refine sc_text [3, 3, 0, 1, 3, 2] ?_
    refine sr_pu rfl (fun _ => rd_move (ev_t rfl)) ?_
    refine sr_pu rfl (fun _ => rd_idx el_sl_api_Node (ev_t rfl) (ev_t rfl) (fun _ => by omega)) ?_
    refine sr_rd rfl (rd_loads agg_api_Node (ev_t rfl) rfl (fun _ => hcell)) ?_
    refine sr_alloc rfl ze_api_Node rfl ?_
    intro b5 w5 N5
    have l5 := newge N5 g.size
    try have l5_gl1 := newge N5 gl1.size
    have g := g.trans (PF.of_g (N5.g))
    try have gl1 := gl1.trans (PF.of_g (N5.g))
    have hP := hP.grow (N5.g)
    have hk0 := hk0.grow (N5.g)
    try have hkid := hkid.grow (N5.g)
    have B5 := N5.blk
    refine sr_pu rfl (fun _ => rd_assign (ev_t rfl)) ?_
    refine sr_store_all rfl sz_api_Node (ev_t rfl) (ev_t rfl) rfl rfl B5 rfl rfl ?_
    intro wS1 hgS1 hzS1
    have C5 := B5
    clear B5
    intro B5
    have g := pf_only g hgS1 (by omega)
    first | replace gl1 := pf_only gl1 hgS1 (by omega) | clear gl1 | skip
    have hP := hP.keep hgS1 C5 rfl (by omega) (by omega)
    have hk0 := hk0.st hgS1 hD (by omega)
    have hkid := hkid.st hgS1 hD (by omega)
    refine sr_sub [(0, _, _), (4, _, _), (5, _, _), (6, _, _), (7, _, _), (8, _, _)] (sub_cons rfl (sub_cons rfl (sub_cons rfl (sub_cons rfl (sub_cons rfl (sub_cons rfl (sub_nil _))))))) ?_
    refine sr_nil (hK5 _ _ ?_)
    refine sc_seq fun K6 hK6 => ?_
    refine sc_seq fun K7 hK7 => ?_
    refine sc_text [3, 3] ?_
    refine sr_pu rfl (fun _ => rd_move (ev_t rfl)) ?_
    refine sr_pu rfl (fun _ => rd_gt (ev_t rfl) ev_c) ?_
    refine sr_sub [(0, _, _), (5, _, _), (6, _, _), (7, _, _), (8, _, _), (14, _, _)] (sub_cons rfl (sub_cons rfl (sub_cons rfl (sub_cons rfl (sub_cons rfl (sub_cons rfl (sub_nil _))))))) ?_
    refine sr_nil (hK7 _ _ ?_)
    refine sc_cond (ev_t rfl) (fun h2 => ?_) (fun h2 => ?_)
    · rw [h2, cond_true] at hjs hjl
      simp only [List.length_append, List.length_cons, List.length_nil] at hjl
      refine sc_text [3, 1, 2] ?_
      refine sr_pu rfl (fun _ => rd_move (ev_t rfl)) ?_
      refine sr_buildSlice [_] rfl el_sl_string ze_string (parts_cons ev_c (parts_nil)) rfl rfl ?_
      intro b16 w16 N16
      have x16_5 := N16.ne B5
      have l16 := newge N16 g.size
      try have l16_gl1 := newge N16 gl1.size
      have g := g.trans (PF.of_g (N16.g))
      try have gl1 := gl1.trans (PF.of_g (N16.g))
      replace B5 := B5.grow (N16.g)
      have hP := hP.grow (N16.g)
      have hk0 := hk0.grow (N16.g)
      try have hkid := hkid.grow (N16.g)
      have B16 := N16.blk
      refine sr_call rfl (rc_call go_syntax_printer_write ev_f (args_cons (ev_t rfl) (args_cons (ev_t rfl) (args_nil))) rfl) (write_ok [[44, 32]] hP B16 (by omega) (by first | omega | (simp only [List.length_append, List.length_cons, List.length_nil, List.flatten_cons, List.flatten_nil, List.append_nil, tabsL, List.length_replicate]; omega) | (simp at hlen ⊢ <;> omega)) (by first | rfl | (simp [ht]; done) | (simpa using ht)) (Nat.le_of_ble_eq_true rfl)) ?_
      rintro v17 w17 ⟨rfl, hP, g17⟩
      refine ⟨fun h => absurd h (by decide), ?_⟩
      have g := g.trans g17
      try have gl1 := gl1.trans g17
      replace B5 := B5.pf g17 rfl (by omega)
      replace B16 := B16.pf g17 rfl (by omega)
      have hk0 := hk0.pf g17 hD
      try have hkid := hkid.pf g17 hD
      refine sr_sub [(0, _, _), (5, _, _), (6, _, _), (7, _, _), (8, _, _)] (sub_cons rfl (sub_cons rfl (sub_cons rfl (sub_cons rfl (sub_cons rfl (sub_nil _)))))) ?_
      refine sr_nil (hK6 _ _ ?_)
      refine sc_text [3, 0, 2] ?_
      refine sr_pu rfl (fun _ => rd_move (ev_t rfl)) ?_
      refine sr_rd rfl (rd_loads agg_api_Node (ev_t rfl) rfl (fun _ => B5.row)) ?_
      refine sr_call rfl (rc_call go_syntax_printer_expr ev_f (args_cons (ev_t rfl) (args_cons (ev_t rfl) (args_nil))) rfl) (hex ks[i] (List.getElem_mem h1) _ _ D n0 b _ k _ hkid hD hP (by simp only [List.length_append, List.length_cons, List.length_nil, List.flatten_cons, List.flatten_nil, List.append_nil]; omega) (by omega)) ?_
      rintro v20 w20 ⟨rfl, hP, g20⟩
      refine ⟨fun h => absurd h (by decide), ?_⟩
      have g := g.trans g20
      try have gl1 := gl1.trans g20
      replace B5 := B5.pf g20 rfl (by omega)
      replace B16 := B16.pf g20 rfl (by omega)
      have hk0 := hk0.pf g20 hD
      try have hkid := hkid.pf g20 hD
      refine sr_sub [(0, _, _), (6, _, _), (7, _, _), (8, _, _)] (sub_cons rfl (sub_cons rfl (sub_cons rfl (sub_cons rfl (sub_nil _))))) ?_
      refine sr_nil (hK4 _ _ ?_)
      refine sc_text [3, 3] ?_
      refine sr_pu rfl (fun _ => rd_add (ev_t rfl) ev_c (fun _ => by omega)) ?_
      refine sr_pu rfl (fun _ => rd_move (ev_t rfl)) ?_
      refine sr_sub [(8, _, _), (0, _, _), (6, _, _), (7, _, _)] (sub_cons rfl (sub_cons rfl (sub_cons rfl (sub_cons rfl (sub_nil _))))) ?_
      refine sr_nil (fun a ha => ?_)
      refine ⟨i + 1, ha, ⟨⟨h1, ?_, hk0⟩, gl1⟩, by omega⟩
      rw [hjs]; simpa only [List.append_assoc, List.flatten_cons, List.flatten_nil, List.append_nil] using hP
    rw [h2, cond_false, List.append_nil] at hjs hjl
    simp only [List.length_append] at hjl
    refine sc_skip (hK6 _ _ ?_)
    refine sc_sub [(0, _, _), (5, _, _), (6, _, _), (7, _, _), (8, _, _)] (sub_cons rfl (sub_cons rfl (sub_cons rfl (sub_cons rfl (sub_cons rfl (sub_nil _)))))) ?_
    refine sc_text [3, 0, 2] ?_
    refine sr_pu rfl (fun _ => rd_move (ev_t rfl)) ?_
    refine sr_rd rfl (rd_loads agg_api_Node (ev_t rfl) rfl (fun _ => B5.row)) ?_
    refine sr_call rfl (rc_call go_syntax_printer_expr ev_f (args_cons (ev_t rfl) (args_cons (ev_t rfl) (args_nil))) rfl) (hex ks[i] (List.getElem_mem h1) _ _ D n0 b _ k _ hkid hD hP (by simp only [List.length_append, List.length_cons, List.length_nil, List.flatten_cons, List.flatten_nil, List.append_nil]; omega) (by omega)) ?_
    rintro v20 w20 ⟨rfl, hP, g20⟩
    refine ⟨fun h => absurd h (by decide), ?_⟩
    have g := g.trans g20
    try have gl1 := gl1.trans g20
    replace B5 := B5.pf g20 rfl (by omega)
    have hk0 := hk0.pf g20 hD
    try have hkid := hkid.pf g20 hD
    refine sr_sub [(0, _, _), (6, _, _), (7, _, _), (8, _, _)] (sub_cons rfl (sub_cons rfl (sub_cons rfl (sub_cons rfl (sub_nil _))))) ?_
    refine sr_nil (hK4 _ _ ?_)
    refine sc_text [3, 3] ?_
    refine sr_pu rfl (fun _ => rd_add (ev_t rfl) ev_c (fun _ => by omega)) ?_
    refine sr_pu rfl (fun _ => rd_move (ev_t rfl)) ?_
    refine sr_sub [(8, _, _), (0, _, _), (6, _, _), (7, _, _)] (sub_cons rfl (sub_cons rfl (sub_cons rfl (sub_cons rfl (sub_nil _))))) ?_
    refine sr_nil (fun a ha => ?_)
    refine ⟨i + 1, ha, ⟨⟨h1, ?_, hk0⟩, gl1⟩, by omega⟩
    rw [hjs]; simpa only [List.append_assoc, List.flatten_cons, List.flatten_nil, List.append_nil] using hP
  replace h1 : i = ks.length := by simp only [decide_eq_false_iff_not] at h1; omega
  refine sc_exit rfl (t_end0 rfl ?_)
  refine ⟨rfl, ?_, g⟩
  rw [h1, List.take_length] at hP; exact hP
end Go.Rk
namespace Go.Rk
open Go Go.Shelf Go.RowKit
def laysM171_ren : Go.Shelf.Ren := ⟨fun | 171 => 49 | 243 => 53 | 246 => 56 | 283 => 67 | 284 => 68 | 285 => 69 | 286 => 70 | 129 => 76 | 317 => 75 | 318 => 77 | 319 => 78 | 320 => 79 | 337 => 85 | 338 => 86 | n => n, fun | 3 => 3 | 9 => 9 | 2 => 2 | 4 => 4 | 171 => 91 | 0 => 0 | 53 => 92 | 37 => 41 | 5 => 5 | 173 => 95 | 212 => 100 | 51 => 101 | 20 => 20 | 213 => 102 | 46 => 103 | 232 => 117 | 233 => 118 | n => n, fun | 17 => 1 | 18 => 4 | 19 => 5 | n => n⟩
theorem laysM171 : Go.Proofs.LaysM.n171 PP laysM171_ren := {
  mixed := by kernel_rfl
  f129 := Go.Proofs.Tryd.func76.trans (congrArg some (by kernel_rfl))
  f171 := Go.Proofs.Tryd.func49.trans (congrArg some (by kernel_rfl))
  f243 := Go.Proofs.Tryd.func53.trans (congrArg some (by kernel_rfl))
  f246 := Go.Proofs.Tryd.func56.trans (congrArg some (by kernel_rfl))
  f283 := Go.Proofs.Tryd.func67.trans (congrArg some (by kernel_rfl))
  f284 := Go.Proofs.Tryd.func68.trans (congrArg some (by kernel_rfl))
  f285 := Go.Proofs.Tryd.func69.trans (congrArg some (by kernel_rfl))
  f286 := Go.Proofs.Tryd.func70.trans (congrArg some (by kernel_rfl))
  f317 := Go.Proofs.Tryd.func75.trans (congrArg some (by kernel_rfl))
  f318 := Go.Proofs.Tryd.func77.trans (congrArg some (by kernel_rfl))
  f319 := Go.Proofs.Tryd.func78.trans (congrArg some (by kernel_rfl))
  f320 := Go.Proofs.Tryd.func79.trans (congrArg some (by kernel_rfl))
  f337 := Go.Proofs.Tryd.func85.trans (congrArg some (by kernel_rfl))
  f338 := Go.Proofs.Tryd.func86.trans (congrArg some (by kernel_rfl))
  t0 := Go.Proofs.Tryd.underlying0
  a0 := Go.Proofs.Tryd.isAgg0
  z0 := Go.Proofs.Tryd.sizeOf0
  v0 := Go.Proofs.Tryd.zeroValue0
  t2 := Go.Proofs.Tryd.underlying2
  a2 := Go.Proofs.Tryd.isAgg2
  z2 := Go.Proofs.Tryd.sizeOf2
  v2 := Go.Proofs.Tryd.zeroValue2
  t3 := Go.Proofs.Tryd.underlying3
  a3 := Go.Proofs.Tryd.isAgg3
  z3 := Go.Proofs.Tryd.sizeOf3
  v3 := Go.Proofs.Tryd.zeroValue3
  t4 := Go.Proofs.Tryd.underlying4
  a4 := Go.Proofs.Tryd.isAgg4
  z4 := Go.Proofs.Tryd.sizeOf4
  v4 := Go.Proofs.Tryd.zeroValue4
  t5 := Go.Proofs.Tryd.underlying5
  a5 := Go.Proofs.Tryd.isAgg5
  z5 := Go.Proofs.Tryd.sizeOf5
  v5 := Go.Proofs.Tryd.zeroValue5
  t9 := Go.Proofs.Tryd.underlying9
  a9 := Go.Proofs.Tryd.isAgg9
  z9 := Go.Proofs.Tryd.sizeOf9
  v9 := Go.Proofs.Tryd.zeroValue9
  t20 := Go.Proofs.Tryd.underlying20
  a20 := Go.Proofs.Tryd.isAgg20
  z20 := Go.Proofs.Tryd.sizeOf20
  v20 := Go.Proofs.Tryd.zeroValue20
  t37 := Go.Proofs.Tryd.underlying41
  a37 := Go.Proofs.Tryd.isAgg41
  z37 := Go.Proofs.Tryd.sizeOf41
  v37 := Go.Proofs.Tryd.zeroValue41
  t46 := Go.Proofs.Tryd.underlying103
  a46 := Go.Proofs.Tryd.isAgg103
  z46 := Go.Proofs.Tryd.sizeOf103
  v46 := Go.Proofs.Tryd.zeroValue103
  t51 := Go.Proofs.Tryd.underlying101
  a51 := Go.Proofs.Tryd.isAgg101
  z51 := Go.Proofs.Tryd.sizeOf101
  v51 := Go.Proofs.Tryd.zeroValue101
  t53 := Go.Proofs.Tryd.underlying92
  a53 := Go.Proofs.Tryd.isAgg92
  z53 := Go.Proofs.Tryd.sizeOf92
  v53 := Go.Proofs.Tryd.zeroValue92
  t171 := Go.Proofs.Tryd.underlying91
  a171 := Go.Proofs.Tryd.isAgg91
  z171 := Go.Proofs.Tryd.sizeOf91
  v171 := Go.Proofs.Tryd.zeroValue91
  t173 := Go.Proofs.Tryd.underlying95
  a173 := Go.Proofs.Tryd.isAgg95
  z173 := Go.Proofs.Tryd.sizeOf95
  v173 := Go.Proofs.Tryd.zeroValue95
  t212 := Go.Proofs.Tryd.underlying100
  a212 := Go.Proofs.Tryd.isAgg100
  z212 := Go.Proofs.Tryd.sizeOf100
  v212 := Go.Proofs.Tryd.zeroValue100
  t213 := Go.Proofs.Tryd.underlying102
  a213 := Go.Proofs.Tryd.isAgg102
  z213 := Go.Proofs.Tryd.sizeOf102
  t232 := Go.Proofs.Tryd.underlying117
  a232 := Go.Proofs.Tryd.isAgg117
  z232 := Go.Proofs.Tryd.sizeOf117
  v232 := Go.Proofs.Tryd.zeroValue117
  t233 := Go.Proofs.Tryd.underlying118
  a233 := Go.Proofs.Tryd.isAgg118
  z233 := Go.Proofs.Tryd.sizeOf118
  v233 := Go.Proofs.Tryd.zeroValue118
  g17 := by kernel_rfl
  g18 := by kernel_rfl
  g19 := by kernel_rfl
  i0 := by kernel_rfl
  i2 := by kernel_rfl
  i3 := by kernel_rfl
  i4 := by kernel_rfl
  i5 := by kernel_rfl
  i9 := by kernel_rfl
  i20 := by kernel_rfl
  i37 := by kernel_rfl
  i46 := by kernel_rfl
  i51 := by kernel_rfl
  i53 := by kernel_rfl
  i171 := by kernel_rfl
  i173 := by kernel_rfl
  i212 := by kernel_rfl
  i232 := by kernel_rfl
  i233 := by kernel_rfl
  m17 := by kernel_rfl
  m18 := by kernel_rfl
  m19 := by kernel_rfl }
end Go.Rk
namespace Go.Rk
open Go Go.RowKit
set_option linter.unusedVariables false
theorem itoa_ok {n0 : Nat} {w : World} (n : Int) (h0 : 0 ≤ n) (h1 : n ≤ 9223372036854775807) (hT : LaidP n0 w) : Ret PP fn_strconv_Itoa #[.int .i64 n] w fun v w' => v = Str (digL n.toNat) ∧ G w w' := by
  refine (Go.Proofs.Any.strconv_Itoa laysM171 n (by omega) h1 w hT.here).mono ?_
  rintro e w' ⟨rfl, k, os, rfl⟩
  refine ⟨_, rfl, ?_, Lib.below_grow _ _ (Nat.le_refl _) _ _⟩
  obtain ⟨m, rfl⟩ := Int.eq_ofNat_of_zero_le h0
  rw [Lib.itoa_nonneg, Int.toNat_natCast, digL_dec (by omega)]
@[reducible] def fn_internal_strconv_FormatBool : Nat := 54
theorem go_internal_strconv_FormatBool : goFn PP 54 = true := by kernel_rfl
theorem func_internal_strconv_FormatBool : PP.funcs[54]? = some Go.Proofs.Tryd.f54 := Go.Proofs.Tryd.func54
theorem ifb_ok (c : Bool) (w : World) : Ret PP fn_internal_strconv_FormatBool #[.bool c] w fun v w' => v = Str (bif c then [116, 114, 117, 101] else [102, 97, 108, 115, 101]) ∧ G w w' := by
  have g := G.refl w
  refine ret_of_sc (m := 4) func_internal_strconv_FormatBool rfl rfl [(0, True, _)] (sub_cons rfl (sub_nil _)) ?_
  refine sc_seq fun K1 hK1 => ?_
  refine sc_text [3] ?_
  refine sr_pu rfl (fun _ => rd_assign ev_c) ?_
  refine sr_nil (hK1 _ _ ?_)
  refine sc_seq fun K2 hK2 => ?_
  refine sc_seq fun K3 hK3 => ?_
  refine sc_text [3] ?_
  refine sr_pu rfl (fun _ => rd_move (ev_t rfl)) ?_
  refine sr_sub [(2, _, _), (3, _, _)] (sub_cons rfl (sub_cons rfl (sub_nil _))) ?_
  refine sr_nil (hK3 _ _ ?_)
  refine sc_cond (ev_t rfl) (fun h1 => ?_) (fun h1 => ?_)
  · subst h1
    refine sc_seq fun K4 hK4 => ?_
    refine sc_text [3] ?_
    refine sr_pu rfl (fun _ => rd_assign ev_c) ?_
    refine sr_sub [(2, _, _)] (sub_cons rfl (sub_nil _)) ?_
    refine sr_nil (hK4 _ _ ?_)
    refine sc_ret (t_ret1 rfl rfl ?_)
    exact ⟨rfl, g⟩
  subst h1
  refine sc_skip (hK2 _ _ ?_)
  refine sc_sub [(2, _, _)] (sub_cons rfl (sub_nil _)) ?_
  refine sc_seq fun K5 hK5 => ?_
  refine sc_text [3] ?_
  refine sr_pu rfl (fun _ => rd_assign ev_c) ?_
  refine sr_nil (hK5 _ _ ?_)
  refine sc_ret (t_ret1 rfl rfl ?_)
  exact ⟨rfl, g⟩
theorem fbool_ok (c : Bool) (w : World) : Ret PP fn_strconv_FormatBool #[.bool c] w fun v w' => v = Str (bif c then [116, 114, 117, 101] else [102, 97, 108, 115, 101]) ∧ G w w' := by
  have g := G.refl w
  refine ret_of_sc (m := 5) func_strconv_FormatBool rfl rfl [(0, True, _)] (sub_cons rfl (sub_nil _)) ?_
  refine sc_seq fun K1 hK1 => ?_
  refine sc_text [3] ?_
  refine sr_pu rfl (fun _ => rd_assign ev_c) ?_
  refine sr_nil (hK1 _ _ ?_)
  refine sc_seq fun K2 hK2 => ?_
  refine sc_text [3, 1, 3] ?_
  refine sr_pu rfl (fun _ => rd_move (ev_t rfl)) ?_
  refine sr_call rfl (rc_call go_internal_strconv_FormatBool ev_f (args_cons (ev_t rfl) (args_nil)) rfl) (ifb_ok _ _) ?_
  rintro v4 w4 ⟨rfl, g4⟩
  refine ⟨fun _ => g4, ?_⟩
  have g := g.trans (g4)
  refine sr_pu rfl (fun _ => rd_assign (ev_t rfl)) ?_
  refine sr_sub [(2, _, _)] (sub_cons rfl (sub_nil _)) ?_
  refine sr_nil (hK2 _ _ ?_)
  refine sc_ret (t_ret1 rfl rfl ?_)
  exact ⟨rfl, g⟩
theorem Prn.tabs {n0 b : Nat} {l : List UInt8} {k k' : Nat} {p a : Option Addr} {q : Nat} {w w' : World} (h : Prn n0 b l k w) (hB : Bld n0 b l k p a q w) (ha : l = [] → a = none) (hg : w.grownBy w' (some b)) (hn : Blk w' b ty_syntax_printer [.pointer p, .slice a l.length q, .int .i64 k']) : Prn n0 b l k' w' :=
  ⟨⟨p, a, q, { B := hn, hb := hB.hb, row := own_keep hB.row hg (.inr hB.n1), n1 := hB.n1, hp := hB.hp }, ha⟩, h.tab.on (below_only (Go.RowKit.Below.refl _ _) hg (by have := hB.hb; have := hB.B.lt; omega) (fun k hk => by injection hk with hk; have := hB.hb; omega))⟩
theorem plX_snoc (l : List Nd) (f : Nd → Nat → List UInt8) (k : Nat) {i : Nat} (h : i < l.length) : plX (l.take (i + 1)) f k = plX (l.take i) f k ++ (([10] ++ tabsL k) ++ f l[i] k) := by
  rw [take_step h, plX, List.flatMap_append, plX]; simp
theorem plX_le (l : List Nd) (f : Nd → Nat → List UInt8) (k i : Nat) : (plX (l.take i) f k).length ≤ (plX l f k).length := by
  conv => rhs; rw [plX, ← List.take_append_drop i l, List.flatMap_append, List.length_append]
  exact Nat.le_add_right _ _
theorem lines_ok {ks : List Nd} {c : Nat} {p : Option Addr} {D : Nat → Prop} {n0 b : Nat} {l : List UInt8} {k : Nat} {w : World} (hst : ∀ x ∈ ks, PrOk fn_syntax_printer_stmt pst x) (hk0 : Kd w D ks (.slice p ks.length c)) (hD : ∀ x, D x → x < n0) (hP : Prn n0 b l k w)
    (hlen : l.length + (plX ks pst (k + 1)).length < 100000000) (hc : k + 1 + (ks.map count).sum ≤ 1000000) :
    Ret PP fn_syntax_printer_lines #[.pointer (some ⟨b, 0, none⟩), .slice p ks.length c] w (Wr n0 b l (plX ks pst (k + 1)) k w) := by
  have g := PF.refl n0 b w
  have hbn := hP.ge
  have hls := length_le_sum ks
  refine ret_of_sc (m := 32) func_syntax_printer_lines rfl rfl [(0, True, _), (1, True, _)] (sub_cons rfl (sub_cons rfl (sub_nil _))) ?_
  refine sc_seq fun K1 hK1 => ?_
  refine sc_text [3, 3, 3, 0, 3, 3, 3, 2] ?_
  obtain ⟨p1, a1, q1, hB1, hB2⟩ := hP.bld
  refine sr_pu rfl (fun _ => rd_move (ev_t rfl)) ?_
  refine sr_pu rfl (fun _ => rd_nil (ev_t rfl)) ?_
  refine sr_pu rfl (fun _ => rd_field fo_syntax_printer_1 (ev_t rfl)) ?_
  refine sr_rd rfl (rd_load one_int (ev_t rfl) (fun _ => hB1.B.at_ rfl)) ?_
  refine sr_pu rfl (fun _ => rd_add (ev_t rfl) ev_c (fun _ => by omega)) ?_
  refine sr_pu rfl (fun _ => rd_nil (ev_t rfl)) ?_
  refine sr_pu rfl (fun _ => rd_field fo_syntax_printer_1 (ev_t rfl)) ?_
  refine sr_store_one rfl sz_int (ev_t rfl) (ev_t rfl) rfl hB1.B rfl rfl ?_
  intro wS1 hgS1 hzS1 B62
  have g := pf_b g hgS1 hbn.1
  have hP := hP.tabs (k' := k + 1) hB1 hB2 hgS1 B62
  have hk0 := hk0.st hgS1 hD hbn.1
  refine sr_sub [(0, _, _), (1, _, _)] (sub_cons rfl (sub_cons rfl (sub_nil _))) ?_
  refine sr_nil (hK1 _ _ ?_)
  refine sc_seq fun K2 hK2 => ?_
  refine sc_seq fun K3 hK3 => ?_
  refine sc_text [3, 3, 3] ?_
  refine sr_pu rfl (fun _ => rd_move (ev_t rfl)) ?_
  refine sr_pu rfl (fun _ => rd_len el_sl_api_Node (ev_t rfl)) ?_
  refine sr_pu rfl (fun _ => rd_move ev_c) ?_
  refine sr_sub [(0, _, _), (13, _, _), (14, _, _), (15, _, _)] (sub_cons rfl (sub_cons rfl (sub_cons rfl (sub_cons rfl (sub_nil _))))) ?_
  refine sr_nil (hK3 _ _ ?_)
  refine sc_block ?_
  refine sc_loop2 (fun (i : Nat) u1 => (i ≤ ks.length ∧ Prn n0 b (l ++ plX (ks.take i) pst (k + 1)) (k + 1) u1 ∧ Kd u1 D ks (.slice p ks.length c)) ∧ PF n0 b wS1 u1) [(0, True, _), (13, True, _), (14, True, _)] (fun (i : Nat) => [(15, True, .int .i64 i)]) (fun (i : Nat) => ks.length - i) (0) ⟨⟨Nat.zero_le _, by simpa [plX] using hP, hk0⟩, PF.refl _ _ _⟩ (sub_cons rfl (sub_cons rfl (sub_cons rfl (sub_cons rfl (sub_nil _))))) ?_
  rintro i u1 ⟨hI1, gl1⟩
  have g := g.trans gl1
  obtain ⟨hi, hP, hk0⟩ := hI1
  refine sc_seq fun K4 hK4 => ?_
  refine sc_text [3] ?_
  refine sr_pu rfl (fun _ => rd_lt (ev_t rfl) (ev_t rfl)) ?_
  refine sr_nil (hK4 _ _ ?_)
  refine sc_sub [(0, _, _), (13, _, _), (14, _, _), (15, _, _), (16, _, _)] (sub_cons rfl (sub_cons rfl (sub_cons rfl (sub_cons rfl (sub_cons rfl (sub_nil _)))))) ?_
  refine sc_seq fun K5 hK5 => ?_
  refine sc_cond (ev_t rfl) (fun h1 => ?_) (fun h1 => ?_)
  · replace h1 : i < ks.length := by simp only [decide_eq_true_eq] at h1; omega
    obtain ⟨_, _, hpe, _, hks⟩ := id hk0
    obtain ⟨b9, o9, rfl, hD9, xs, hR, hX⟩ := hks (by omega)
    injection hpe with hpe _ hce
    subst hpe hce
    obtain ⟨p9, c9, hcell, hkid⟩ := kd_at hR hX h1
    have hjs := plX_snoc ks pst (k + 1) h1
    have hjl := plX_le ks pst (k + 1) (i + 1)
    rw [hjs] at hjl
    have hcs := sum_le ks h1
    simp only [List.length_append, List.length_cons, List.length_nil, tabsL, List.length_replicate] at hjl
    refine sc_skip (hK5 _ _ ?_)
    refine sc_sub [(0, _, _), (13, _, _), (14, _, _), (15, _, _)] (sub_cons rfl (sub_cons rfl (sub_cons rfl (sub_cons rfl (sub_nil _))))) ?_
    refine sc_seq fun K6 hK6 => ?_
    refine sc_block ?_
    refine sc_seq fun K7 hK7 => ?_
    refine sc_text [3, 0, 1, 2] ?_
    refine sr_pu rfl (fun _ => rd_idx el_sl_api_Node (ev_t rfl) (ev_t rfl) (fun _ => by omega)) ?_
    refine sr_rd rfl (rd_loads agg_api_Node (ev_t rfl) rfl (fun _ => hcell)) ?_
    refine sr_alloc rfl ze_api_Node rfl ?_
    intro b5 w5 N5
    have l5 := newge N5 g.size
    try have l5_gl1 := newge N5 gl1.size
    have g := g.trans (PF.of_g (N5.g))
    try have gl1 := gl1.trans (PF.of_g (N5.g))
    have hP := hP.grow (N5.g)
    have hk0 := hk0.grow (N5.g)
    try have hkid := hkid.grow (N5.g)
    have B5 := N5.blk
    refine sr_store_all rfl sz_api_Node (ev_t rfl) (ev_t rfl) rfl rfl B5 rfl rfl ?_
    intro wS2 hgS2 hzS2
    have C5 := B5
    clear B5
    intro B5
    have g := pf_only g hgS2 (by omega)
    first | replace gl1 := pf_only gl1 hgS2 (by omega) | clear gl1 | skip
    have hP := hP.keep hgS2 C5 rfl (by omega) (by omega)
    have hk0 := hk0.st hgS2 hD (by omega)
    have hkid := hkid.st hgS2 hD (by omega)
    refine sr_sub [(0, _, _), (5, _, _), (13, _, _), (14, _, _), (15, _, _)] (sub_cons rfl (sub_cons rfl (sub_cons rfl (sub_cons rfl (sub_cons rfl (sub_nil _)))))) ?_
    refine sr_nil (hK7 _ _ ?_)
    refine sc_seq fun K8 hK8 => ?_
    refine sc_text [3, 2] ?_
    refine sr_pu rfl (fun _ => rd_move (ev_t rfl)) ?_
    refine sr_call rfl (rc_call go_syntax_printer_line ev_f (args_cons (ev_t rfl) (args_nil)) rfl) (line_ok hP (by simp only [List.length_append]; omega)) ?_
    rintro v20 w20 ⟨rfl, hP, g20⟩
    refine ⟨fun h => absurd h (by decide), ?_⟩
    have g := g.trans g20
    try have gl1 := gl1.trans g20
    replace B5 := B5.pf g20 rfl (by omega)
    have hk0 := hk0.pf g20 hD
    try have hkid := hkid.pf g20 hD
    refine sr_sub [(0, _, _), (5, _, _), (13, _, _), (14, _, _), (15, _, _)] (sub_cons rfl (sub_cons rfl (sub_cons rfl (sub_cons rfl (sub_cons rfl (sub_nil _)))))) ?_
    refine sr_nil (hK8 _ _ ?_)
    refine sc_text [3, 0, 2] ?_
    refine sr_pu rfl (fun _ => rd_move (ev_t rfl)) ?_
    refine sr_rd rfl (rd_loads agg_api_Node (ev_t rfl) rfl (fun _ => B5.row)) ?_
    refine sr_call rfl (rc_call go_syntax_printer_stmt ev_f (args_cons (ev_t rfl) (args_cons (ev_t rfl) (args_nil))) rfl) (hst ks[i] (List.getElem_mem h1) _ _ D n0 b _ (k + 1) _ hkid hD hP (by simp only [List.length_append, List.length_cons, List.length_nil, tabsL, List.length_replicate]; omega) (by omega)) ?_
    rintro v23 w23 ⟨rfl, hP, g23⟩
    refine ⟨fun h => absurd h (by decide), ?_⟩
    have g := g.trans g23
    try have gl1 := gl1.trans g23
    replace B5 := B5.pf g23 rfl (by omega)
    have hk0 := hk0.pf g23 hD
    try have hkid := hkid.pf g23 hD
    refine sr_sub [(0, _, _), (13, _, _), (14, _, _), (15, _, _)] (sub_cons rfl (sub_cons rfl (sub_cons rfl (sub_cons rfl (sub_nil _))))) ?_
    refine sr_nil (hK6 _ _ ?_)
    refine sc_text [3, 3] ?_
    refine sr_pu rfl (fun _ => rd_add (ev_t rfl) ev_c (fun _ => by omega)) ?_
    refine sr_pu rfl (fun _ => rd_move (ev_t rfl)) ?_
    refine sr_sub [(15, _, _), (0, _, _), (13, _, _), (14, _, _)] (sub_cons rfl (sub_cons rfl (sub_cons rfl (sub_cons rfl (sub_nil _))))) ?_
    refine sr_nil (fun a ha => ?_)
    refine ⟨i + 1, ha, ⟨⟨h1, ?_, hk0⟩, gl1⟩, by omega⟩
    rw [hjs]; simpa only [List.append_assoc] using hP
  replace h1 : i = ks.length := by simp only [decide_eq_false_iff_not] at h1; omega
  refine sc_exit rfl (hK2 _ _ ?_)
  refine sc_sub [(0, _, _)] (sub_cons rfl (sub_nil _)) ?_
  refine sc_text [3, 3, 3, 0, 3, 3, 3, 2] ?_
  obtain ⟨p1, a1, q1, hB1, hB2⟩ := hP.bld
  refine sr_pu rfl (fun _ => rd_move (ev_t rfl)) ?_
  refine sr_pu rfl (fun _ => rd_nil (ev_t rfl)) ?_
  refine sr_pu rfl (fun _ => rd_field fo_syntax_printer_1 (ev_t rfl)) ?_
  refine sr_rd rfl (rd_load one_int (ev_t rfl) (fun _ => hB1.B.at_ rfl)) ?_
  refine sr_pu rfl (fun _ => rd_sub (ev_t rfl) ev_c (fun _ => by omega)) ?_
  refine sr_pu rfl (fun _ => rd_nil (ev_t rfl)) ?_
  refine sr_pu rfl (fun _ => rd_field fo_syntax_printer_1 (ev_t rfl)) ?_
  refine sr_store_one rfl sz_int (ev_t rfl) (ev_t rfl) rfl hB1.B rfl rfl ?_
  intro wS2 hgS2 hzS2 B62
  have g := pf_b g hgS2 hbn.1
  have hP := hP.tabs (k' := k) hB1 hB2 hgS2 (by simpa using B62)
  refine sr_nil (t_end0 rfl ?_)
  refine ⟨rfl, ?_, g⟩
  rw [h1, List.take_length] at hP; exact hP
theorem block_ok {t : Nd} (hst : ∀ x ∈ t.kids, PrOk fn_syntax_printer_stmt pst x) (hs : ∀ x ∈ t.kids, pst x = stT x) : PrOk fn_syntax_printer_block blkT t := by
  intro p c D n0 b l k w hk0 hD hP hlen hc
  have g := PF.refl n0 b w
  have hbn := hP.ge
  have hcn : count t = 1 + (t.kids.map count).sum := count_eq t
  have hpl := plX_congr (f := pst) (g := stT) (l := t.kids) hs (k + 1)
  rw [blkT_eq, ← hpl] at hlen
  simp only [List.length_append, List.length_cons, List.length_nil, tabsL, List.length_replicate] at hlen
  refine ret_of_sc (m := 16) func_syntax_printer_block rfl rfl [(0, True, _), (1, True, _)] (sub_cons rfl (sub_cons rfl (sub_nil _))) ?_
  refine sc_seq fun K1 hK1 => ?_
  refine sc_text [1] ?_
  refine sr_box rfl (ev_t rfl) rfl ?_
  intro b3 w3 N3
  have l3 := newge N3 g.size
  have g := g.trans (PF.of_g (N3.g))
  have hP := hP.grow (N3.g)
  have hk0 := hk0.grow (N3.g)
  have B3 := N3.blk
  refine sr_sub [(0, _, _), (3, _, _)] (sub_cons rfl (sub_cons rfl (sub_nil _))) ?_
  refine sr_nil (hK1 _ _ ?_)
  refine sc_seq fun K2 hK2 => ?_
  refine sc_text [3, 1, 2] ?_
  refine sr_pu rfl (fun _ => rd_move (ev_t rfl)) ?_
  refine sr_buildSlice [_] rfl el_sl_string ze_string (parts_cons ev_c (parts_nil)) rfl rfl ?_
  intro b5 w5 N5
  have x5_3 := N5.ne B3
  have l5 := newge N5 g.size
  have g := g.trans (PF.of_g (N5.g))
  replace B3 := B3.grow (N5.g)
  have hP := hP.grow (N5.g)
  have hk0 := hk0.grow (N5.g)
  have B5 := N5.blk
  refine sr_call rfl (rc_call go_syntax_printer_write ev_f (args_cons (ev_t rfl) (args_cons (ev_t rfl) (args_nil))) rfl) (write_ok [[123]] hP B5 (by omega) (by first | omega | (simp only [List.length_append, List.length_cons, List.length_nil, List.flatten_cons, List.flatten_nil, List.append_nil, tabsL, List.length_replicate]; omega) | (simp at hlen ⊢ <;> omega)) (by first | rfl | (simp [ht]; done) | (simpa using ht)) (Nat.le_of_ble_eq_true rfl)) ?_
  rintro v6 w6 ⟨rfl, hP, g6⟩
  refine ⟨fun h => absurd h (by decide), ?_⟩
  have g := g.trans g6
  replace B3 := B3.pf g6 rfl (by omega)
  replace B5 := B5.pf g6 rfl (by omega)
  have hk0 := hk0.pf g6 hD
  refine sr_sub [(0, _, _), (3, _, _)] (sub_cons rfl (sub_cons rfl (sub_nil _))) ?_
  refine sr_nil (hK2 _ _ ?_)
  refine sc_seq fun K3 hK3 => ?_
  refine sc_text [3, 3, 0, 2] ?_
  refine sr_pu rfl (fun _ => rd_move (ev_t rfl)) ?_
  refine sr_pu rfl (fun _ => rd_field fo_api_Node_4 (ev_t rfl)) ?_
  refine sr_rd rfl (rd_load one_sl_api_Node (ev_t rfl) (fun _ => B3.at_ rfl)) ?_
  refine sr_call rfl (rc_call go_syntax_printer_lines ev_f (args_cons (ev_t rfl) (args_cons (ev_t rfl) (args_nil))) rfl) (lines_ok hst hk0 hD hP (by simp only [List.length_append, List.length_cons, List.length_nil, List.flatten_cons, List.flatten_nil, List.append_nil]; omega) (by omega)) ?_
  rintro v10 w10 ⟨rfl, hP, g10⟩
  refine ⟨fun h => absurd h (by decide), ?_⟩
  have g := g.trans g10
  replace B3 := B3.pf g10 rfl (by omega)
  replace B5 := B5.pf g10 rfl (by omega)
  have hk0 := hk0.pf g10 hD
  refine sr_sub [(0, _, _)] (sub_cons rfl (sub_nil _)) ?_
  refine sr_nil (hK3 _ _ ?_)
  refine sc_seq fun K4 hK4 => ?_
  refine sc_text [3, 2] ?_
  refine sr_pu rfl (fun _ => rd_move (ev_t rfl)) ?_
  refine sr_call rfl (rc_call go_syntax_printer_line ev_f (args_cons (ev_t rfl) (args_nil)) rfl) (line_ok hP (by simp only [List.length_append, List.length_cons, List.length_nil, List.flatten_cons, List.flatten_nil, List.append_nil]; omega)) ?_
  rintro v12 w12 ⟨rfl, hP, g12⟩
  refine ⟨fun h => absurd h (by decide), ?_⟩
  have g := g.trans g12
  replace B3 := B3.pf g12 rfl (by omega)
  replace B5 := B5.pf g12 rfl (by omega)
  have hk0 := hk0.pf g12 hD
  refine sr_sub [(0, _, _)] (sub_cons rfl (sub_nil _)) ?_
  refine sr_nil (hK4 _ _ ?_)
  refine sc_text [3, 1, 2] ?_
  refine sr_pu rfl (fun _ => rd_move (ev_t rfl)) ?_
  refine sr_buildSlice [_] rfl el_sl_string ze_string (parts_cons ev_c (parts_nil)) rfl rfl ?_
  intro b14 w14 N14
  have x14_3 := N14.ne B3
  have x14_5 := N14.ne B5
  have l14 := newge N14 g.size
  have g := g.trans (PF.of_g (N14.g))
  replace B3 := B3.grow (N14.g)
  replace B5 := B5.grow (N14.g)
  have hP := hP.grow (N14.g)
  have hk0 := hk0.grow (N14.g)
  have B14 := N14.blk
  refine sr_call rfl (rc_call go_syntax_printer_write ev_f (args_cons (ev_t rfl) (args_cons (ev_t rfl) (args_nil))) rfl) (write_ok [[125]] hP B14 (by omega) (by first | omega | (simp only [List.length_append, List.length_cons, List.length_nil, List.flatten_cons, List.flatten_nil, List.append_nil, tabsL, List.length_replicate]; omega) | (simp at hlen ⊢ <;> omega)) (by first | rfl | (simp [ht]; done) | (simpa using ht)) (Nat.le_of_ble_eq_true rfl)) ?_
  rintro v15 w15 ⟨rfl, hP, g15⟩
  refine ⟨fun h => absurd h (by decide), ?_⟩
  have g := g.trans g15
  replace B3 := B3.pf g15 rfl (by omega)
  replace B5 := B5.pf g15 rfl (by omega)
  replace B14 := B14.pf g15 rfl (by omega)
  have hk0 := hk0.pf g15 hD
  refine sr_sub [] (sub_nil _) ?_
  refine sr_nil (t_end0 rfl ?_)
  refine ⟨rfl, ?_, g⟩
  rw [blkT_eq, ← hpl]; simpa only [List.append_assoc, List.flatten_cons, List.flatten_nil, List.append_nil] using hP
theorem list_ok' {ks : List Nd} {m c : Nat} {p : Option Addr} {D : Nat → Prop} {n0 b : Nat} {l : List UInt8} {k : Nat} {w : World} (hm : m = ks.length) (hex : ∀ x ∈ ks, PrOk fn_syntax_printer_expr exT x) (hk0 : Kd w D ks (.slice p m c)) (hD : ∀ x, D x → x < n0) (hP : Prn n0 b l k w)
    (hlen : l.length + (joinX (ks.map fun y => exT y k)).length < 100000000) (hc : k + (ks.map count).sum ≤ 1000000) :
    Ret PP fn_syntax_printer_list #[.pointer (some ⟨b, 0, none⟩), .slice p m c] w (Wr n0 b l (joinX (ks.map fun y => exT y k)) k w) := by
  subst hm; exact list_ok hex hk0 hD hP hlen hc
theorem kd_drop {w : World} {D : Nat → Prop} {ks : List Nd} {p : Option Addr} {c : Nat} (hk : Kd w D ks (.slice p ks.length c)) (h : 1 ≤ ks.length) : ∃ b o, p = some ⟨b, o, none⟩ ∧ Kd w D (ks.drop 1) (.slice (some ⟨b, if c = (1 : Int).toNat then o else o + (1 : Int).toNat * 9, none⟩) (ks.length - (1 : Int).toNat) (c - (1 : Int).toNat)) := by
  obtain ⟨p', c', hpe, hc, hks⟩ := hk
  injection hpe with hpe _ hce
  subst hpe hce
  obtain ⟨b, o, rfl, hb, xs, hR, hX⟩ := hks h
  have h1 : (1 : Int).toNat = 1 := rfl
  refine ⟨b, o, rfl, some ⟨b, if c = (1 : Int).toNat then o else o + (1 : Int).toNat * 9, none⟩, c - (1 : Int).toNat, by rw [List.length_drop]; rfl, by rw [List.length_drop]; omega, fun h0 => ⟨b, _, rfl, hb, ?_⟩⟩
  rw [List.length_drop] at h0
  rw [if_neg (by omega)]
  match ks, hX with
  | t :: ts, hX =>
    obtain ⟨v, r, rfl, _, hr⟩ := hX
    refine ⟨r, fun j u hj => ?_, hr⟩
    have := hR (j + 9) u (by rw [List.getElem?_append_right (by rw [ndCells_length]; omega), ndCells_length, Nat.add_sub_cancel]; exact hj)
    rw [show o + (1 : Int).toNat * 9 + j = o + (j + 9) by omega]; exact this
theorem okNd_kidAt' {t : Nd} (hk : okNd t) {i : Nat} (h : i < t.kids.length) : okNd (kidAt t i) := by
  rw [kidAt_eq h]; exact okNd_kid hk (List.getElem_mem h)
theorem ok_num {t : Nd} (h : okNd t) : t.num ≤ 9223372036854775807 := by rw [okNd_eq] at h; exact h.2.1.2
theorem PBel.e {t : Nd} (ih : PBel t) {i : Nat} (h : i < t.kids.length) (hx : exprB (kidAt t i) = true) (hk : okNd t) : PrOk fn_syntax_printer_expr exT (kidAt t i) := (ih.kid h).ex hx (okNd_kidAt' hk h)
theorem PBel.s {t : Nd} (ih : PBel t) {i : Nat} (h : i < t.kids.length) (hx : pstB (kidAt t i) = true) (hk : okNd t) : PrOk fn_syntax_printer_stmt pst (kidAt t i) := (ih.kid h).st hx (okNd_kidAt' hk h)
theorem PBel.es {t : Nd} (ih : PBel t) (hx : t.kids.all exprB = true) (hk : okNd t) : ∀ x ∈ t.kids, PrOk fn_syntax_printer_expr exT x := fun x hm => (ih x (count_mem hm)).ex (List.all_eq_true.1 hx x hm) (okNd_kid hk hm)
theorem stmt_pstB {t : Nd} (h : stmtB t = true) : pstB t = true := by unfold pstB; rw [h]; rfl
theorem PBel.b {t : Nd} (ih : PBel t) {i : Nat} (h : i < t.kids.length) (hx : blockB (kidAt t i) = true) (hk : okNd t) : PrOk fn_syntax_printer_block blkT (kidAt t i) := by
  have hs := List.all_eq_true.1 (sh10 hx)
  exact block_ok (fun x hm => (ih x (Nat.lt_trans (count_mem hm) (count_kidAt h))).st (stmt_pstB (hs x hm)) (okNd_kid (okNd_kidAt' hk h) hm)) (fun x hm => pst_stmt (hs x hm))
theorem PBel.b0 {t : Nd} (ih : PBel t) (hx : blockB t = true) (hk : okNd t) : PrOk fn_syntax_printer_block blkT t := by
  have hs := List.all_eq_true.1 (sh10 hx)
  exact block_ok (fun x hm => (ih x (count_mem hm)).st (stmt_pstB (hs x hm)) (okNd_kid hk hm)) (fun x hm => pst_stmt (hs x hm))
theorem all_one {t : Nd} {f : Nd → Bool} (hl : t.kids.length = 1) (h : f (kidAt t 0) = true) : t.kids.all f = true := by
  obtain ⟨a, ha⟩ := List.length_eq_one_iff.1 hl
  rw [show kidAt t 0 = a by simp [kidAt, ha]] at h
  rw [ha]; simp [h]
theorem digL_ne (n : Nat) : digL n ≠ [] := by
  unfold digL digF
  cases Nat.blt n 10 <;> simp
theorem exp_kinds {t : Nd} (h : exprB t = true) : t.kind = 24 ∨ t.kind = 25 ∨ t.kind = 26 ∨ t.kind = 27 ∨ t.kind = 28 ∨ t.kind = 29 ∨ t.kind = 30 ∨ t.kind = 31 ∨ t.kind = 32 ∨ t.kind = 33 ∨ t.kind = 34 ∨ t.kind = 35 ∨ t.kind = 36 ∨ t.kind = 37 ∨ t.kind = 38 := by
  have h1 := (Bool.and_eq_true_iff.1 h).1
  unfold expK at h1
  simp only [anyK, Bool.or_eq_true, decide_eq_true_eq] at h1
  omega
theorem primary_ok {t : Nd} (hl : 0 < t.kids.length) (hE0 : PrOk fn_syntax_printer_expr exT (kidAt t 0)) : PrOk fn_syntax_printer_primary (fun t k => parX (memK [32, 31, 33] (kidAt t 0).kind) (exT (kidAt t 0) k)) t := by
  intro p c D n0 b l k w hk0 hD hP hlen hc
  have g := PF.refl n0 b w
  have hbn := hP.ge
  have hc0 := count_kidAt hl
  refine ret_of_sc (m := 11) func_syntax_printer_primary rfl rfl [(0, True, _), (1, True, _)] (sub_cons rfl (sub_cons rfl (sub_nil _))) ?_
  refine sc_seq fun K1 hK1 => ?_
  refine sc_text [1] ?_
  refine sr_box rfl (ev_t rfl) rfl ?_
  intro b3 w3 N3
  have l3 := newge N3 g.size
  have g := g.trans (PF.of_g (N3.g))
  have hP := hP.grow (N3.g)
  have hk0 := hk0.grow (N3.g)
  try have hkid := hkid.grow (N3.g)
  have B3 := N3.blk
  refine sr_sub [(0, _, _), (3, _, _)] (sub_cons rfl (sub_cons rfl (sub_nil _))) ?_
  refine sr_nil (hK1 _ _ ?_)
  refine sc_text [3, 3, 0, 3, 0, 1, 2] ?_
  refine sr_pu rfl (fun _ => rd_move (ev_t rfl)) ?_
  refine sr_pu rfl (fun _ => rd_field fo_api_Node_4 (ev_t rfl)) ?_
  refine sr_rd rfl (rd_load one_sl_api_Node (ev_t rfl) (fun _ => B3.at_ rfl)) ?_
  obtain ⟨hpe, p_7, c_7, hcell, hkid⟩ := kd_opt hk0 (i := 0) (by omega)
  refine sr_pu rfl (fun _ => rd_idxq el_sl_api_Node (ev_t rfl) ev_c (fun _ => by omega) (fun _ => hpe)) ?_
  refine sr_rd rfl (rd_loads agg_api_Node (ev_t rfl) rfl (fun _ => hcell)) ?_
  refine sr_buildSlice [_, _, _] rfl el_sl_int ze_int (parts_cons ev_c (parts_cons ev_c (parts_cons ev_c (parts_nil)))) rfl rfl ?_
  intro b9 w9 N9
  have x9_3 := N9.ne B3
  have l9 := newge N9 g.size
  have g := g.trans (PF.of_g (N9.g))
  replace B3 := B3.grow (N9.g)
  have hP := hP.grow (N9.g)
  have hk0 := hk0.grow (N9.g)
  try have hkid := hkid.grow (N9.g)
  have B9 := N9.blk
  refine sr_call rfl (rc_call go_syntax_printer_inner ev_f (args_cons (ev_t rfl) (args_cons (ev_t rfl) (args_cons (ev_t rfl) (args_nil)))) rfl) (inner_ok hE0 [32, 31, 33] _ _ hkid hD hP B9 (by decide) (by first | omega | (simp only [List.length_append, List.length_cons, List.length_nil, List.flatten_cons, List.flatten_nil, List.append_nil, tabsL, List.length_replicate]; omega)) (by omega)) ?_
  rintro v10 w10 ⟨rfl, hP, g10⟩
  refine ⟨fun h => absurd h (by decide), ?_⟩
  have g := g.trans g10
  replace B3 := B3.pf g10 rfl (by omega)
  replace B9 := B9.pf g10 rfl (by omega)
  have hk0 := hk0.pf g10 hD
  refine sr_sub [] (sub_nil _) ?_
  refine sr_nil (t_end0 rfl ?_)
  exact ⟨rfl, hP, g⟩
theorem pair_ok {t : Nd} (s : List UInt8) (hs : s ≠ []) (hl : t.kids.length = 2) (hE0 : PrOk fn_syntax_printer_expr exT (kidAt t 0)) (hE1 : PrOk fn_syntax_printer_expr exT (kidAt t 1)) {p : Option Addr} {c : Nat} {D : Nat → Prop} {n0 b : Nat} {l : List UInt8} {k : Nat} {w : World} (hk0 : Kd w D t.kids (.slice p t.kids.length c)) (hD : ∀ x, D x → x < n0) (hP : Prn n0 b l k w)
    (hlen : l.length + ((exT (kidAt t 0) k ++ s) ++ exT (kidAt t 1) k).length < 100000000) (hc : k + count t ≤ 1000000) :
    Ret PP fn_syntax_printer_pair #[.pointer (some ⟨b, 0, none⟩), ndV t (.slice p t.kids.length c), Str s] w (Wr n0 b l ((exT (kidAt t 0) k ++ s) ++ exT (kidAt t 1) k) k w) := by
  have g := PF.refl n0 b w
  have hbn := hP.ge
  have hc0 := count_kidAt (t := t) (i := 0) (by omega)
  have hc1 := count_kidAt (t := t) (i := 1) (by omega)
  simp only [List.length_append] at hlen
  refine ret_of_sc (m := 22) func_syntax_printer_pair rfl rfl [(0, True, _), (1, True, _), (2, True, _)] (sub_cons rfl (sub_cons rfl (sub_cons rfl (sub_nil _)))) ?_
  refine sc_seq fun K1 hK1 => ?_
  refine sc_text [1] ?_
  refine sr_box rfl (ev_t rfl) rfl ?_
  intro b4 w4 N4
  have l4 := newge N4 g.size
  have g := g.trans (PF.of_g (N4.g))
  have hP := hP.grow (N4.g)
  have hk0 := hk0.grow (N4.g)
  try have hkid := hkid.grow (N4.g)
  have B4 := N4.blk
  refine sr_sub [(0, _, _), (2, _, _), (4, _, _)] (sub_cons rfl (sub_cons rfl (sub_cons rfl (sub_nil _)))) ?_
  refine sr_nil (hK1 _ _ ?_)
  refine sc_seq fun K2 hK2 => ?_
  refine sc_text [3, 3, 0, 3, 0, 2] ?_
  refine sr_pu rfl (fun _ => rd_move (ev_t rfl)) ?_
  refine sr_pu rfl (fun _ => rd_field fo_api_Node_4 (ev_t rfl)) ?_
  refine sr_rd rfl (rd_load one_sl_api_Node (ev_t rfl) (fun _ => B4.at_ rfl)) ?_
  obtain ⟨hpe, p_9, c_9, hcell, hkid⟩ := kd_opt hk0 (i := 0) (by omega)
  refine sr_pu rfl (fun _ => rd_idxq el_sl_api_Node (ev_t rfl) ev_c (fun _ => by omega) (fun _ => hpe)) ?_
  refine sr_rd rfl (rd_loads agg_api_Node (ev_t rfl) rfl (fun _ => hcell)) ?_
  refine sr_call rfl (rc_call go_syntax_printer_expr ev_f (args_cons (ev_t rfl) (args_cons (ev_t rfl) (args_nil))) rfl) (hE0 _ _ D n0 b _ k _ hkid hD hP (by first | omega | (simp only [List.length_append, List.length_cons, List.length_nil, List.flatten_cons, List.flatten_nil, List.append_nil, tabsL, List.length_replicate]; omega)) (by omega)) ?_
  rintro v11 w11 ⟨rfl, hP, g11⟩
  refine ⟨fun h => absurd h (by decide), ?_⟩
  have g := g.trans g11
  replace B4 := B4.pf g11 rfl (by omega)
  have hk0 := hk0.pf g11 hD
  refine sr_sub [(0, _, _), (2, _, _), (4, _, _)] (sub_cons rfl (sub_cons rfl (sub_cons rfl (sub_nil _)))) ?_
  refine sr_nil (hK2 _ _ ?_)
  refine sc_seq fun K3 hK3 => ?_
  refine sc_text [3, 3, 1, 2] ?_
  refine sr_pu rfl (fun _ => rd_move (ev_t rfl)) ?_
  refine sr_pu rfl (fun _ => rd_move (ev_t rfl)) ?_
  refine sr_buildSlice [_] rfl el_sl_string ze_string (parts_cons (ev_t rfl) (parts_nil)) rfl rfl ?_
  intro b14 w14 N14
  have x14_4 := N14.ne B4
  have l14 := newge N14 g.size
  have g := g.trans (PF.of_g (N14.g))
  replace B4 := B4.grow (N14.g)
  have hP := hP.grow (N14.g)
  have hk0 := hk0.grow (N14.g)
  try have hkid := hkid.grow (N14.g)
  have B14 := N14.blk
  refine sr_call rfl (rc_call go_syntax_printer_write ev_f (args_cons (ev_t rfl) (args_cons (ev_t rfl) (args_nil))) rfl) (write_ok [s] hP B14 (by omega) (by first | omega | (simp only [List.length_append, List.length_cons, List.length_nil, List.flatten_cons, List.flatten_nil, List.append_nil, tabsL, List.length_replicate]; omega)) (by simp [hs]) (Nat.le_of_ble_eq_true rfl)) ?_
  rintro v15 w15 ⟨rfl, hP, g15⟩
  refine ⟨fun h => absurd h (by decide), ?_⟩
  have g := g.trans g15
  replace B4 := B4.pf g15 rfl (by omega)
  replace B14 := B14.pf g15 rfl (by omega)
  have hk0 := hk0.pf g15 hD
  refine sr_sub [(0, _, _), (4, _, _)] (sub_cons rfl (sub_cons rfl (sub_nil _))) ?_
  refine sr_nil (hK3 _ _ ?_)
  refine sc_text [3, 3, 0, 3, 0, 2] ?_
  refine sr_pu rfl (fun _ => rd_move (ev_t rfl)) ?_
  refine sr_pu rfl (fun _ => rd_field fo_api_Node_4 (ev_t rfl)) ?_
  refine sr_rd rfl (rd_load one_sl_api_Node (ev_t rfl) (fun _ => B4.at_ rfl)) ?_
  obtain ⟨hpe, p_19, c_19, hcell, hkid⟩ := kd_opt hk0 (i := 1) (by omega)
  refine sr_pu rfl (fun _ => rd_idxq el_sl_api_Node (ev_t rfl) ev_c (fun _ => by omega) (fun _ => hpe)) ?_
  refine sr_rd rfl (rd_loads agg_api_Node (ev_t rfl) rfl (fun _ => hcell)) ?_
  refine sr_call rfl (rc_call go_syntax_printer_expr ev_f (args_cons (ev_t rfl) (args_cons (ev_t rfl) (args_nil))) rfl) (hE1 _ _ D n0 b _ k _ hkid hD hP (by first | omega | (simp only [List.length_append, List.length_cons, List.length_nil, List.flatten_cons, List.flatten_nil, List.append_nil, tabsL, List.length_replicate]; omega)) (by omega)) ?_
  rintro v21 w21 ⟨rfl, hP, g21⟩
  refine ⟨fun h => absurd h (by decide), ?_⟩
  have g := g.trans g21
  replace B4 := B4.pf g21 rfl (by omega)
  replace B14 := B14.pf g21 rfl (by omega)
  have hk0 := hk0.pf g21 hD
  refine sr_sub [] (sub_nil _) ?_
  refine sr_nil (t_end0 rfl ?_)
  refine ⟨rfl, ?_, g⟩
  simpa only [List.append_assoc, List.flatten_cons, List.flatten_nil, List.append_nil] using hP
end Go.Rk
namespace Go.Rk
open Go Go.RowKit
set_option linter.unusedVariables false
set_option maxHeartbeats 4000000 in
theorem expr_ok {t : Nd} (ih : PBel t) (hx : exprB t = true) (hok : okNd t) : PrOk fn_syntax_printer_expr exT t := by
  intro p c D n0 b l k w hk0 hD hP hlen hc
  have g := PF.refl n0 b w
  have hbn := hP.ge
  have hcn : count t = 1 + (t.kids.map count).sum := count_eq t
  refine ret_of_sc (m := 179) func_syntax_printer_expr rfl rfl [(0, True, _), (1, True, _)] (sub_cons rfl (sub_cons rfl (sub_nil _))) ?_
  refine sc_seq fun K1 hK1 => ?_
  refine sc_text [1] ?_
  refine sr_box rfl (ev_t rfl) rfl ?_
  intro b3 w3 N3
  have l3 := newge N3 g.size
  have g := g.trans (PF.of_g (N3.g))
  have hP := hP.grow (N3.g)
  have hk0 := hk0.grow (N3.g)
  try have hkid := hkid.grow (N3.g)
  have B3 := N3.blk
  refine sr_sub [(0, _, _), (3, _, _)] (sub_cons rfl (sub_cons rfl (sub_nil _))) ?_
  refine sr_nil (hK1 _ _ ?_)
  refine sc_seq fun K2 hK2 => ?_
  refine sc_text [3, 0] ?_
  refine sr_pu rfl (fun _ => rd_field fo_api_Node_0 (ev_t rfl)) ?_
  refine sr_rd rfl (rd_load one_int (ev_t rfl) (fun _ => B3.at_ rfl)) ?_
  refine sr_sub [(0, _, _), (3, _, _), (5, _, _)] (sub_cons rfl (sub_cons rfl (sub_cons rfl (sub_nil _)))) ?_
  refine sr_nil (hK2 _ _ ?_)
  refine sc_block ?_
  refine sc_seq fun K3 hK3 => ?_
  refine sc_text [3, 3] ?_
  refine sr_pu rfl (fun _ => rd_eq (ev_t rfl) ev_c) ?_
  refine sr_pu rfl (fun _ => rd_assign (ev_t rfl)) ?_
  refine sr_sub [(0, _, _), (3, _, _), (5, _, _), (6, _, _)] (sub_cons rfl (sub_cons rfl (sub_cons rfl (sub_cons rfl (sub_nil _))))) ?_
  refine sr_nil (hK3 _ _ ?_)
  refine sc_cond (ev_t rfl) (fun h1 => ?_) (fun h1 => ?_)
  · replace h1 := of_decide_eq_true h1
    obtain ⟨ht, hl, he0⟩ := sh28 h1 hx
    have hE0 := ih.e (by omega) he0 hok
    have hc0 := count_kidAt (t := t) (i := 0) (by omega)
    have e := exT_28 h1 hl k
    rw [e] at hlen
    try simp only [List.length_append, List.length_cons, List.length_nil, List.flatten_cons, List.flatten_nil, List.append_nil, tabsL, List.length_replicate] at hlen
    refine sc_seq fun K4 hK4 => ?_
    refine sc_text [3, 0, 2] ?_
    refine sr_pu rfl (fun _ => rd_move (ev_t rfl)) ?_
    refine sr_rd rfl (rd_loads agg_api_Node (ev_t rfl) rfl (fun _ => B3.row)) ?_
    refine sr_call rfl (rc_call go_syntax_printer_primary ev_f (args_cons (ev_t rfl) (args_cons (ev_t rfl) (args_nil))) rfl) (primary_ok (by omega) hE0 _ _ D n0 b _ k _ hk0 hD hP (by first | omega | (simp only [List.length_append, List.length_cons, List.length_nil, List.flatten_cons, List.flatten_nil, List.append_nil, tabsL, List.length_replicate]; omega)) hc) ?_
    rintro v10 w10 ⟨rfl, hP, g10⟩
    refine ⟨fun h => absurd h (by decide), ?_⟩
    have g := g.trans g10
    replace B3 := B3.pf g10 rfl (by omega)
    have hk0 := hk0.pf g10 hD
    refine sr_sub [(0, _, _), (3, _, _)] (sub_cons rfl (sub_cons rfl (sub_nil _))) ?_
    refine sr_nil (hK4 _ _ ?_)
    refine sc_text [3, 3, 0, 1, 2] ?_
    refine sr_pu rfl (fun _ => rd_move (ev_t rfl)) ?_
    refine sr_pu rfl (fun _ => rd_field fo_api_Node_1 (ev_t rfl)) ?_
    refine sr_rd rfl (rd_load one_string (ev_t rfl) (fun _ => B3.at_ rfl)) ?_
    refine sr_buildSlice [_, _] rfl el_sl_string ze_string (parts_cons ev_c (parts_cons (ev_t rfl) (parts_nil))) rfl rfl ?_
    intro b14 w14 N14
    have x14_3 := N14.ne B3
    have l14 := newge N14 g.size
    have g := g.trans (PF.of_g (N14.g))
    replace B3 := B3.grow (N14.g)
    have hP := hP.grow (N14.g)
    have hk0 := hk0.grow (N14.g)
    try have hkid := hkid.grow (N14.g)
    have B14 := N14.blk
    refine sr_call rfl (rc_call go_syntax_printer_write ev_f (args_cons (ev_t rfl) (args_cons (ev_t rfl) (args_nil))) rfl) (write_ok [[46], t.text] hP B14 (by omega) (by first | omega | (simp only [List.length_append, List.length_cons, List.length_nil, List.flatten_cons, List.flatten_nil, List.append_nil, tabsL, List.length_replicate]; omega) | (simp at hlen ⊢ <;> omega)) (by first | rfl | (simp [ht]; done) | (simpa using ht)) (Nat.le_of_ble_eq_true rfl)) ?_
    rintro v15 w15 ⟨rfl, hP, g15⟩
    refine ⟨fun h => absurd h (by decide), ?_⟩
    have g := g.trans g15
    replace B3 := B3.pf g15 rfl (by omega)
    replace B14 := B14.pf g15 rfl (by omega)
    have hk0 := hk0.pf g15 hD
    refine sr_sub [] (sub_nil _) ?_
    refine sr_nil (t_end0 rfl ?_)
    refine ⟨rfl, ?_, g⟩
    rw [e]; simpa only [List.append_assoc, List.flatten_cons, List.flatten_nil, List.append_nil] using hP
  (try simp only [bsimp] at h1)
  refine sc_seq fun K5 hK5 => ?_
  refine sc_text [3, 3] ?_
  refine sr_pu rfl (fun _ => rd_eq (ev_t rfl) ev_c) ?_
  refine sr_pu rfl (fun _ => rd_assign (ev_t rfl)) ?_
  refine sr_sub [(0, _, _), (3, _, _), (5, _, _), (16, _, _)] (sub_cons rfl (sub_cons rfl (sub_cons rfl (sub_cons rfl (sub_nil _))))) ?_
  refine sr_nil (hK5 _ _ ?_)
  refine sc_cond (ev_t rfl) (fun h2 => ?_) (fun h2 => ?_)
  · replace h2 := of_decide_eq_true h2
    obtain ⟨hl, he0, he1⟩ := sh29 h2 hx
    have hE0 := ih.e (by omega) he0 hok
    have hE1 := ih.e (by omega) he1 hok
    have hc0 := count_kidAt (t := t) (i := 0) (by omega)
    have hc1 := count_kidAt (t := t) (i := 1) (by omega)
    have e := exT_29 h2 hl k
    rw [e] at hlen
    try simp only [List.length_append, List.length_cons, List.length_nil, List.flatten_cons, List.flatten_nil, List.append_nil, tabsL, List.length_replicate] at hlen
    refine sc_seq fun K6 hK6 => ?_
    refine sc_text [3, 0, 2] ?_
    refine sr_pu rfl (fun _ => rd_move (ev_t rfl)) ?_
    refine sr_rd rfl (rd_loads agg_api_Node (ev_t rfl) rfl (fun _ => B3.row)) ?_
    refine sr_call rfl (rc_call go_syntax_printer_primary ev_f (args_cons (ev_t rfl) (args_cons (ev_t rfl) (args_nil))) rfl) (primary_ok (by omega) hE0 _ _ D n0 b _ k _ hk0 hD hP (by first | omega | (simp only [List.length_append, List.length_cons, List.length_nil, List.flatten_cons, List.flatten_nil, List.append_nil, tabsL, List.length_replicate]; omega)) hc) ?_
    rintro v20 w20 ⟨rfl, hP, g20⟩
    refine ⟨fun h => absurd h (by decide), ?_⟩
    have g := g.trans g20
    replace B3 := B3.pf g20 rfl (by omega)
    have hk0 := hk0.pf g20 hD
    refine sr_sub [(0, _, _), (3, _, _)] (sub_cons rfl (sub_cons rfl (sub_nil _))) ?_
    refine sr_nil (hK6 _ _ ?_)
    refine sc_seq fun K7 hK7 => ?_
    refine sc_text [3, 1, 2] ?_
    refine sr_pu rfl (fun _ => rd_move (ev_t rfl)) ?_
    refine sr_buildSlice [_] rfl el_sl_string ze_string (parts_cons ev_c (parts_nil)) rfl rfl ?_
    intro b22 w22 N22
    have x22_3 := N22.ne B3
    have l22 := newge N22 g.size
    have g := g.trans (PF.of_g (N22.g))
    replace B3 := B3.grow (N22.g)
    have hP := hP.grow (N22.g)
    have hk0 := hk0.grow (N22.g)
    try have hkid := hkid.grow (N22.g)
    have B22 := N22.blk
    refine sr_call rfl (rc_call go_syntax_printer_write ev_f (args_cons (ev_t rfl) (args_cons (ev_t rfl) (args_nil))) rfl) (write_ok [[91]] hP B22 (by omega) (by first | omega | (simp only [List.length_append, List.length_cons, List.length_nil, List.flatten_cons, List.flatten_nil, List.append_nil, tabsL, List.length_replicate]; omega) | (simp at hlen ⊢ <;> omega)) (by first | rfl | (simp [ht]; done) | (simpa using ht)) (Nat.le_of_ble_eq_true rfl)) ?_
    rintro v23 w23 ⟨rfl, hP, g23⟩
    refine ⟨fun h => absurd h (by decide), ?_⟩
    have g := g.trans g23
    replace B3 := B3.pf g23 rfl (by omega)
    replace B22 := B22.pf g23 rfl (by omega)
    have hk0 := hk0.pf g23 hD
    refine sr_sub [(0, _, _), (3, _, _)] (sub_cons rfl (sub_cons rfl (sub_nil _))) ?_
    refine sr_nil (hK7 _ _ ?_)
    refine sc_seq fun K8 hK8 => ?_
    refine sc_text [3, 3, 0, 3, 0, 2] ?_
    refine sr_pu rfl (fun _ => rd_move (ev_t rfl)) ?_
    refine sr_pu rfl (fun _ => rd_field fo_api_Node_4 (ev_t rfl)) ?_
    refine sr_rd rfl (rd_load one_sl_api_Node (ev_t rfl) (fun _ => B3.at_ rfl)) ?_
    obtain ⟨hpe, p_27, c_27, hcell, hkid⟩ := kd_opt hk0 (i := 1) (by omega)
    refine sr_pu rfl (fun _ => rd_idxq el_sl_api_Node (ev_t rfl) ev_c (fun _ => by omega) (fun _ => hpe)) ?_
    refine sr_rd rfl (rd_loads agg_api_Node (ev_t rfl) rfl (fun _ => hcell)) ?_
    refine sr_call rfl (rc_call go_syntax_printer_expr ev_f (args_cons (ev_t rfl) (args_cons (ev_t rfl) (args_nil))) rfl) (hE1 _ _ D n0 b _ k _ hkid hD hP (by first | omega | (simp only [List.length_append, List.length_cons, List.length_nil, List.flatten_cons, List.flatten_nil, List.append_nil, tabsL, List.length_replicate]; omega)) (by omega)) ?_
    rintro v29 w29 ⟨rfl, hP, g29⟩
    refine ⟨fun h => absurd h (by decide), ?_⟩
    have g := g.trans g29
    replace B3 := B3.pf g29 rfl (by omega)
    replace B22 := B22.pf g29 rfl (by omega)
    have hk0 := hk0.pf g29 hD
    refine sr_sub [(0, _, _)] (sub_cons rfl (sub_nil _)) ?_
    refine sr_nil (hK8 _ _ ?_)
    refine sc_text [3, 1, 2] ?_
    refine sr_pu rfl (fun _ => rd_move (ev_t rfl)) ?_
    refine sr_buildSlice [_] rfl el_sl_string ze_string (parts_cons ev_c (parts_nil)) rfl rfl ?_
    intro b31 w31 N31
    have x31_3 := N31.ne B3
    have x31_22 := N31.ne B22
    have l31 := newge N31 g.size
    have g := g.trans (PF.of_g (N31.g))
    replace B3 := B3.grow (N31.g)
    replace B22 := B22.grow (N31.g)
    have hP := hP.grow (N31.g)
    have hk0 := hk0.grow (N31.g)
    try have hkid := hkid.grow (N31.g)
    have B31 := N31.blk
    refine sr_call rfl (rc_call go_syntax_printer_write ev_f (args_cons (ev_t rfl) (args_cons (ev_t rfl) (args_nil))) rfl) (write_ok [[93]] hP B31 (by omega) (by first | omega | (simp only [List.length_append, List.length_cons, List.length_nil, List.flatten_cons, List.flatten_nil, List.append_nil, tabsL, List.length_replicate]; omega) | (simp at hlen ⊢ <;> omega)) (by first | rfl | (simp [ht]; done) | (simpa using ht)) (Nat.le_of_ble_eq_true rfl)) ?_
    rintro v32 w32 ⟨rfl, hP, g32⟩
    refine ⟨fun h => absurd h (by decide), ?_⟩
    have g := g.trans g32
    replace B3 := B3.pf g32 rfl (by omega)
    replace B22 := B22.pf g32 rfl (by omega)
    replace B31 := B31.pf g32 rfl (by omega)
    have hk0 := hk0.pf g32 hD
    refine sr_sub [] (sub_nil _) ?_
    refine sr_nil (t_end0 rfl ?_)
    refine ⟨rfl, ?_, g⟩
    rw [e]; simpa only [List.append_assoc, List.flatten_cons, List.flatten_nil, List.append_nil] using hP
  (try simp only [bsimp] at h2)
  refine sc_seq fun K9 hK9 => ?_
  refine sc_text [3, 3] ?_
  refine sr_pu rfl (fun _ => rd_eq (ev_t rfl) ev_c) ?_
  refine sr_pu rfl (fun _ => rd_assign (ev_t rfl)) ?_
  refine sr_sub [(0, _, _), (3, _, _), (5, _, _), (33, _, _)] (sub_cons rfl (sub_cons rfl (sub_cons rfl (sub_cons rfl (sub_nil _))))) ?_
  refine sr_nil (hK9 _ _ ?_)
  refine sc_cond (ev_t rfl) (fun h3 => ?_) (fun h3 => ?_)
  · replace h3 := of_decide_eq_true h3
    obtain ⟨hl, hes⟩ := sh30 h3 hx
    have hE0 := ih.e (i := 0) (by omega) (all_kidAt hes (by omega)) hok
    have hEs := ih.es hes hok
    have hc0 := count_kidAt (t := t) (i := 0) (by omega)
    have hsd : ((t.kids.drop 1).map count).sum ≤ (t.kids.map count).sum := by rw [← List.take_append_drop 1 (t.kids.map count), List.sum_append, List.map_drop]; omega
    have e := exT_30 h3 hl k
    rw [e] at hlen
    try simp only [List.length_append, List.length_cons, List.length_nil, List.flatten_cons, List.flatten_nil, List.append_nil, tabsL, List.length_replicate] at hlen
    refine sc_seq fun K10 hK10 => ?_
    refine sc_text [3, 0, 2] ?_
    refine sr_pu rfl (fun _ => rd_move (ev_t rfl)) ?_
    refine sr_rd rfl (rd_loads agg_api_Node (ev_t rfl) rfl (fun _ => B3.row)) ?_
    refine sr_call rfl (rc_call go_syntax_printer_primary ev_f (args_cons (ev_t rfl) (args_cons (ev_t rfl) (args_nil))) rfl) (primary_ok (by omega) hE0 _ _ D n0 b _ k _ hk0 hD hP (by first | omega | (simp only [List.length_append, List.length_cons, List.length_nil, List.flatten_cons, List.flatten_nil, List.append_nil, tabsL, List.length_replicate]; omega)) hc) ?_
    rintro v37 w37 ⟨rfl, hP, g37⟩
    refine ⟨fun h => absurd h (by decide), ?_⟩
    have g := g.trans g37
    replace B3 := B3.pf g37 rfl (by omega)
    have hk0 := hk0.pf g37 hD
    refine sr_sub [(0, _, _), (3, _, _)] (sub_cons rfl (sub_cons rfl (sub_nil _))) ?_
    refine sr_nil (hK10 _ _ ?_)
    refine sc_seq fun K11 hK11 => ?_
    refine sc_text [3, 1, 2] ?_
    refine sr_pu rfl (fun _ => rd_move (ev_t rfl)) ?_
    refine sr_buildSlice [_] rfl el_sl_string ze_string (parts_cons ev_c (parts_nil)) rfl rfl ?_
    intro b39 w39 N39
    have x39_3 := N39.ne B3
    have l39 := newge N39 g.size
    have g := g.trans (PF.of_g (N39.g))
    replace B3 := B3.grow (N39.g)
    have hP := hP.grow (N39.g)
    have hk0 := hk0.grow (N39.g)
    try have hkid := hkid.grow (N39.g)
    have B39 := N39.blk
    refine sr_call rfl (rc_call go_syntax_printer_write ev_f (args_cons (ev_t rfl) (args_cons (ev_t rfl) (args_nil))) rfl) (write_ok [[40]] hP B39 (by omega) (by first | omega | (simp only [List.length_append, List.length_cons, List.length_nil, List.flatten_cons, List.flatten_nil, List.append_nil, tabsL, List.length_replicate]; omega) | (simp at hlen ⊢ <;> omega)) (by first | rfl | (simp [ht]; done) | (simpa using ht)) (Nat.le_of_ble_eq_true rfl)) ?_
    rintro v40 w40 ⟨rfl, hP, g40⟩
    refine ⟨fun h => absurd h (by decide), ?_⟩
    have g := g.trans g40
    replace B3 := B3.pf g40 rfl (by omega)
    replace B39 := B39.pf g40 rfl (by omega)
    have hk0 := hk0.pf g40 hD
    refine sr_sub [(0, _, _), (3, _, _)] (sub_cons rfl (sub_cons rfl (sub_nil _))) ?_
    refine sr_nil (hK11 _ _ ?_)
    refine sc_seq fun K12 hK12 => ?_
    refine sc_text [3, 3, 0, 3, 2] ?_
    obtain ⟨b44, o44, rfl, hkd⟩ := kd_drop hk0 hl
    refine sr_pu rfl (fun _ => rd_move (ev_t rfl)) ?_
    refine sr_pu rfl (fun _ => rd_field fo_api_Node_4 (ev_t rfl)) ?_
    refine sr_rd rfl (rd_load one_sl_api_Node (ev_t rfl) (fun _ => B3.at_ rfl)) ?_
    refine sr_pu rfl (fun _ => rd_sl_from el_sl_api_Node (ev_t rfl) ev_c (fun _ => by omega)) ?_
    refine sr_call rfl (rc_call go_syntax_printer_list ev_f (args_cons (ev_t rfl) (args_cons (ev_t rfl) (args_nil))) rfl) (list_ok' (by rw [List.length_drop]; rfl) (fun x hm => hEs x (List.mem_of_mem_drop hm)) hkd hD hP (by first | omega | (simp only [List.length_append, List.length_cons, List.length_nil, List.flatten_cons, List.flatten_nil, List.append_nil, tabsL, List.length_replicate]; omega)) (by omega)) ?_
    rintro v45 w45 ⟨rfl, hP, g45⟩
    refine ⟨fun h => absurd h (by decide), ?_⟩
    have g := g.trans g45
    replace B3 := B3.pf g45 rfl (by omega)
    replace B39 := B39.pf g45 rfl (by omega)
    have hk0 := hk0.pf g45 hD
    refine sr_sub [(0, _, _)] (sub_cons rfl (sub_nil _)) ?_
    refine sr_nil (hK12 _ _ ?_)
    refine sc_text [3, 1, 2] ?_
    refine sr_pu rfl (fun _ => rd_move (ev_t rfl)) ?_
    refine sr_buildSlice [_] rfl el_sl_string ze_string (parts_cons ev_c (parts_nil)) rfl rfl ?_
    intro b47 w47 N47
    have x47_3 := N47.ne B3
    have x47_39 := N47.ne B39
    have l47 := newge N47 g.size
    have g := g.trans (PF.of_g (N47.g))
    replace B3 := B3.grow (N47.g)
    replace B39 := B39.grow (N47.g)
    have hP := hP.grow (N47.g)
    have hk0 := hk0.grow (N47.g)
    try have hkid := hkid.grow (N47.g)
    have B47 := N47.blk
    refine sr_call rfl (rc_call go_syntax_printer_write ev_f (args_cons (ev_t rfl) (args_cons (ev_t rfl) (args_nil))) rfl) (write_ok [[41]] hP B47 (by omega) (by first | omega | (simp only [List.length_append, List.length_cons, List.length_nil, List.flatten_cons, List.flatten_nil, List.append_nil, tabsL, List.length_replicate]; omega) | (simp at hlen ⊢ <;> omega)) (by first | rfl | (simp [ht]; done) | (simpa using ht)) (Nat.le_of_ble_eq_true rfl)) ?_
    rintro v48 w48 ⟨rfl, hP, g48⟩
    refine ⟨fun h => absurd h (by decide), ?_⟩
    have g := g.trans g48
    replace B3 := B3.pf g48 rfl (by omega)
    replace B39 := B39.pf g48 rfl (by omega)
    replace B47 := B47.pf g48 rfl (by omega)
    have hk0 := hk0.pf g48 hD
    refine sr_sub [] (sub_nil _) ?_
    refine sr_nil (t_end0 rfl ?_)
    refine ⟨rfl, ?_, g⟩
    rw [e]; simpa only [List.append_assoc, List.flatten_cons, List.flatten_nil, List.append_nil] using hP
  (try simp only [bsimp] at h3)
  refine sc_seq fun K13 hK13 => ?_
  refine sc_text [3, 3] ?_
  refine sr_pu rfl (fun _ => rd_eq (ev_t rfl) ev_c) ?_
  refine sr_pu rfl (fun _ => rd_assign (ev_t rfl)) ?_
  refine sr_sub [(0, _, _), (3, _, _), (5, _, _), (49, _, _)] (sub_cons rfl (sub_cons rfl (sub_cons rfl (sub_cons rfl (sub_nil _))))) ?_
  refine sr_nil (hK13 _ _ ?_)
  refine sc_cond (ev_t rfl) (fun h4 => ?_) (fun h4 => ?_)
  · replace h4 := of_decide_eq_true h4
    obtain ⟨ht, hl, he0⟩ := sh31 h4 hx
    have hE0 := ih.e (by omega) he0 hok
    have hc0 := count_kidAt (t := t) (i := 0) (by omega)
    have e := exT_31 h4 hl k
    rw [e] at hlen
    try simp only [List.length_append, List.length_cons, List.length_nil, List.flatten_cons, List.flatten_nil, List.append_nil, tabsL, List.length_replicate] at hlen
    refine sc_seq fun K14 hK14 => ?_
    refine sc_text [3, 3, 0, 1, 2] ?_
    refine sr_pu rfl (fun _ => rd_move (ev_t rfl)) ?_
    refine sr_pu rfl (fun _ => rd_field fo_api_Node_1 (ev_t rfl)) ?_
    refine sr_rd rfl (rd_load one_string (ev_t rfl) (fun _ => B3.at_ rfl)) ?_
    refine sr_buildSlice [_] rfl el_sl_string ze_string (parts_cons (ev_t rfl) (parts_nil)) rfl rfl ?_
    intro b54 w54 N54
    have x54_3 := N54.ne B3
    have l54 := newge N54 g.size
    have g := g.trans (PF.of_g (N54.g))
    replace B3 := B3.grow (N54.g)
    have hP := hP.grow (N54.g)
    have hk0 := hk0.grow (N54.g)
    try have hkid := hkid.grow (N54.g)
    have B54 := N54.blk
    refine sr_call rfl (rc_call go_syntax_printer_write ev_f (args_cons (ev_t rfl) (args_cons (ev_t rfl) (args_nil))) rfl) (write_ok [t.text] hP B54 (by omega) (by first | omega | (simp only [List.length_append, List.length_cons, List.length_nil, List.flatten_cons, List.flatten_nil, List.append_nil, tabsL, List.length_replicate]; omega) | (simp at hlen ⊢ <;> omega)) (by first | rfl | (simp [ht]; done) | (simpa using ht)) (Nat.le_of_ble_eq_true rfl)) ?_
    rintro v55 w55 ⟨rfl, hP, g55⟩
    refine ⟨fun h => absurd h (by decide), ?_⟩
    have g := g.trans g55
    replace B3 := B3.pf g55 rfl (by omega)
    replace B54 := B54.pf g55 rfl (by omega)
    have hk0 := hk0.pf g55 hD
    refine sr_sub [(0, _, _), (3, _, _)] (sub_cons rfl (sub_cons rfl (sub_nil _))) ?_
    refine sr_nil (hK14 _ _ ?_)
    refine sc_text [3, 3, 0, 3, 0, 1, 2] ?_
    refine sr_pu rfl (fun _ => rd_move (ev_t rfl)) ?_
    refine sr_pu rfl (fun _ => rd_field fo_api_Node_4 (ev_t rfl)) ?_
    refine sr_rd rfl (rd_load one_sl_api_Node (ev_t rfl) (fun _ => B3.at_ rfl)) ?_
    obtain ⟨hpe, p_59, c_59, hcell, hkid⟩ := kd_opt hk0 (i := 0) (by omega)
    refine sr_pu rfl (fun _ => rd_idxq el_sl_api_Node (ev_t rfl) ev_c (fun _ => by omega) (fun _ => hpe)) ?_
    refine sr_rd rfl (rd_loads agg_api_Node (ev_t rfl) rfl (fun _ => hcell)) ?_
    refine sr_buildSlice [_] rfl el_sl_int ze_int (parts_cons ev_c (parts_nil)) rfl rfl ?_
    intro b61 w61 N61
    have x61_3 := N61.ne B3
    have x61_54 := N61.ne B54
    have l61 := newge N61 g.size
    have g := g.trans (PF.of_g (N61.g))
    replace B3 := B3.grow (N61.g)
    replace B54 := B54.grow (N61.g)
    have hP := hP.grow (N61.g)
    have hk0 := hk0.grow (N61.g)
    try have hkid := hkid.grow (N61.g)
    have B61 := N61.blk
    refine sr_call rfl (rc_call go_syntax_printer_inner ev_f (args_cons (ev_t rfl) (args_cons (ev_t rfl) (args_cons (ev_t rfl) (args_nil)))) rfl) (inner_ok hE0 [32] _ _ hkid hD hP B61 (by decide) (by first | omega | (simp only [List.length_append, List.length_cons, List.length_nil, List.flatten_cons, List.flatten_nil, List.append_nil, tabsL, List.length_replicate]; omega)) (by omega)) ?_
    rintro v62 w62 ⟨rfl, hP, g62⟩
    refine ⟨fun h => absurd h (by decide), ?_⟩
    have g := g.trans g62
    replace B3 := B3.pf g62 rfl (by omega)
    replace B54 := B54.pf g62 rfl (by omega)
    replace B61 := B61.pf g62 rfl (by omega)
    have hk0 := hk0.pf g62 hD
    refine sr_sub [] (sub_nil _) ?_
    refine sr_nil (t_end0 rfl ?_)
    refine ⟨rfl, ?_, g⟩
    rw [e]; simpa only [List.append_assoc, List.flatten_cons, List.flatten_nil, List.append_nil] using hP
  (try simp only [bsimp] at h4)
  refine sc_seq fun K15 hK15 => ?_
  refine sc_text [3, 3] ?_
  refine sr_pu rfl (fun _ => rd_eq (ev_t rfl) ev_c) ?_
  refine sr_pu rfl (fun _ => rd_assign (ev_t rfl)) ?_
  refine sr_sub [(0, _, _), (3, _, _), (5, _, _), (63, _, _)] (sub_cons rfl (sub_cons rfl (sub_cons rfl (sub_cons rfl (sub_nil _))))) ?_
  refine sr_nil (hK15 _ _ ?_)
  refine sc_cond (ev_t rfl) (fun h5 => ?_) (fun h5 => ?_)
  · replace h5 := of_decide_eq_true h5
    obtain ⟨hl, he0⟩ := sh33 h5 hx
    have hE0 := ih.e (by omega) he0 hok
    have hc0 := count_kidAt (t := t) (i := 0) (by omega)
    have e := exT_33 h5 hl k
    rw [e] at hlen
    try simp only [List.length_append, List.length_cons, List.length_nil, List.flatten_cons, List.flatten_nil, List.append_nil, tabsL, List.length_replicate] at hlen
    refine sc_seq fun K16 hK16 => ?_
    refine sc_text [3, 1, 2] ?_
    refine sr_pu rfl (fun _ => rd_move (ev_t rfl)) ?_
    refine sr_buildSlice [_] rfl el_sl_string ze_string (parts_cons ev_c (parts_nil)) rfl rfl ?_
    intro b66 w66 N66
    have x66_3 := N66.ne B3
    have l66 := newge N66 g.size
    have g := g.trans (PF.of_g (N66.g))
    replace B3 := B3.grow (N66.g)
    have hP := hP.grow (N66.g)
    have hk0 := hk0.grow (N66.g)
    try have hkid := hkid.grow (N66.g)
    have B66 := N66.blk
    refine sr_call rfl (rc_call go_syntax_printer_write ev_f (args_cons (ev_t rfl) (args_cons (ev_t rfl) (args_nil))) rfl) (write_ok [[60, 45]] hP B66 (by omega) (by first | omega | (simp only [List.length_append, List.length_cons, List.length_nil, List.flatten_cons, List.flatten_nil, List.append_nil, tabsL, List.length_replicate]; omega) | (simp at hlen ⊢ <;> omega)) (by first | rfl | (simp [ht]; done) | (simpa using ht)) (Nat.le_of_ble_eq_true rfl)) ?_
    rintro v67 w67 ⟨rfl, hP, g67⟩
    refine ⟨fun h => absurd h (by decide), ?_⟩
    have g := g.trans g67
    replace B3 := B3.pf g67 rfl (by omega)
    replace B66 := B66.pf g67 rfl (by omega)
    have hk0 := hk0.pf g67 hD
    refine sr_sub [(0, _, _), (3, _, _)] (sub_cons rfl (sub_cons rfl (sub_nil _))) ?_
    refine sr_nil (hK16 _ _ ?_)
    refine sc_text [3, 3, 0, 3, 0, 1, 2] ?_
    refine sr_pu rfl (fun _ => rd_move (ev_t rfl)) ?_
    refine sr_pu rfl (fun _ => rd_field fo_api_Node_4 (ev_t rfl)) ?_
    refine sr_rd rfl (rd_load one_sl_api_Node (ev_t rfl) (fun _ => B3.at_ rfl)) ?_
    obtain ⟨hpe, p_71, c_71, hcell, hkid⟩ := kd_opt hk0 (i := 0) (by omega)
    refine sr_pu rfl (fun _ => rd_idxq el_sl_api_Node (ev_t rfl) ev_c (fun _ => by omega) (fun _ => hpe)) ?_
    refine sr_rd rfl (rd_loads agg_api_Node (ev_t rfl) rfl (fun _ => hcell)) ?_
    refine sr_buildSlice [_] rfl el_sl_int ze_int (parts_cons ev_c (parts_nil)) rfl rfl ?_
    intro b73 w73 N73
    have x73_3 := N73.ne B3
    have x73_66 := N73.ne B66
    have l73 := newge N73 g.size
    have g := g.trans (PF.of_g (N73.g))
    replace B3 := B3.grow (N73.g)
    replace B66 := B66.grow (N73.g)
    have hP := hP.grow (N73.g)
    have hk0 := hk0.grow (N73.g)
    try have hkid := hkid.grow (N73.g)
    have B73 := N73.blk
    refine sr_call rfl (rc_call go_syntax_printer_inner ev_f (args_cons (ev_t rfl) (args_cons (ev_t rfl) (args_cons (ev_t rfl) (args_nil)))) rfl) (inner_ok hE0 [32] _ _ hkid hD hP B73 (by decide) (by first | omega | (simp only [List.length_append, List.length_cons, List.length_nil, List.flatten_cons, List.flatten_nil, List.append_nil, tabsL, List.length_replicate]; omega)) (by omega)) ?_
    rintro v74 w74 ⟨rfl, hP, g74⟩
    refine ⟨fun h => absurd h (by decide), ?_⟩
    have g := g.trans g74
    replace B3 := B3.pf g74 rfl (by omega)
    replace B66 := B66.pf g74 rfl (by omega)
    replace B73 := B73.pf g74 rfl (by omega)
    have hk0 := hk0.pf g74 hD
    refine sr_sub [] (sub_nil _) ?_
    refine sr_nil (t_end0 rfl ?_)
    refine ⟨rfl, ?_, g⟩
    rw [e]; simpa only [List.append_assoc, List.flatten_cons, List.flatten_nil, List.append_nil] using hP
  (try simp only [bsimp] at h5)
  refine sc_seq fun K17 hK17 => ?_
  refine sc_text [3, 3] ?_
  refine sr_pu rfl (fun _ => rd_eq (ev_t rfl) ev_c) ?_
  refine sr_pu rfl (fun _ => rd_assign (ev_t rfl)) ?_
  refine sr_sub [(0, _, _), (3, _, _), (5, _, _), (75, _, _)] (sub_cons rfl (sub_cons rfl (sub_cons rfl (sub_cons rfl (sub_nil _))))) ?_
  refine sr_nil (hK17 _ _ ?_)
  refine sc_cond (ev_t rfl) (fun h6 => ?_) (fun h6 => ?_)
  · replace h6 := of_decide_eq_true h6
    obtain ⟨ht, hl, he0, he1⟩ := sh32 h6 hx
    have hE0 := ih.e (by omega) he0 hok
    have hE1 := ih.e (by omega) he1 hok
    have hc0 := count_kidAt (t := t) (i := 0) (by omega)
    have hc1 := count_kidAt (t := t) (i := 1) (by omega)
    have e := exT_32 h6 hl k
    rw [e] at hlen
    try simp only [List.length_append, List.length_cons, List.length_nil, List.flatten_cons, List.flatten_nil, List.append_nil, tabsL, List.length_replicate] at hlen
    refine sc_seq fun K18 hK18 => ?_
    refine sc_text [3, 3, 0, 3, 0, 1, 2] ?_
    refine sr_pu rfl (fun _ => rd_move (ev_t rfl)) ?_
    refine sr_pu rfl (fun _ => rd_field fo_api_Node_4 (ev_t rfl)) ?_
    refine sr_rd rfl (rd_load one_sl_api_Node (ev_t rfl) (fun _ => B3.at_ rfl)) ?_
    obtain ⟨hpe, p_80, c_80, hcell, hkid⟩ := kd_opt hk0 (i := 0) (by omega)
    refine sr_pu rfl (fun _ => rd_idxq el_sl_api_Node (ev_t rfl) ev_c (fun _ => by omega) (fun _ => hpe)) ?_
    refine sr_rd rfl (rd_loads agg_api_Node (ev_t rfl) rfl (fun _ => hcell)) ?_
    refine sr_buildSlice [_] rfl el_sl_int ze_int (parts_cons ev_c (parts_nil)) rfl rfl ?_
    intro b82 w82 N82
    have x82_3 := N82.ne B3
    have l82 := newge N82 g.size
    have g := g.trans (PF.of_g (N82.g))
    replace B3 := B3.grow (N82.g)
    have hP := hP.grow (N82.g)
    have hk0 := hk0.grow (N82.g)
    try have hkid := hkid.grow (N82.g)
    have B82 := N82.blk
    refine sr_call rfl (rc_call go_syntax_printer_inner ev_f (args_cons (ev_t rfl) (args_cons (ev_t rfl) (args_cons (ev_t rfl) (args_nil)))) rfl) (inner_ok hE0 [32] _ _ hkid hD hP B82 (by decide) (by first | omega | (simp only [List.length_append, List.length_cons, List.length_nil, List.flatten_cons, List.flatten_nil, List.append_nil, tabsL, List.length_replicate]; omega)) (by omega)) ?_
    rintro v83 w83 ⟨rfl, hP, g83⟩
    refine ⟨fun h => absurd h (by decide), ?_⟩
    have g := g.trans g83
    replace B3 := B3.pf g83 rfl (by omega)
    replace B82 := B82.pf g83 rfl (by omega)
    have hk0 := hk0.pf g83 hD
    refine sr_sub [(0, _, _), (3, _, _)] (sub_cons rfl (sub_cons rfl (sub_nil _))) ?_
    refine sr_nil (hK18 _ _ ?_)
    refine sc_seq fun K19 hK19 => ?_
    refine sc_text [3, 3, 0, 1, 2] ?_
    refine sr_pu rfl (fun _ => rd_move (ev_t rfl)) ?_
    refine sr_pu rfl (fun _ => rd_field fo_api_Node_1 (ev_t rfl)) ?_
    refine sr_rd rfl (rd_load one_string (ev_t rfl) (fun _ => B3.at_ rfl)) ?_
    refine sr_buildSlice [_, _, _] rfl el_sl_string ze_string (parts_cons ev_c (parts_cons (ev_t rfl) (parts_cons ev_c (parts_nil)))) rfl rfl ?_
    intro b87 w87 N87
    have x87_3 := N87.ne B3
    have x87_82 := N87.ne B82
    have l87 := newge N87 g.size
    have g := g.trans (PF.of_g (N87.g))
    replace B3 := B3.grow (N87.g)
    replace B82 := B82.grow (N87.g)
    have hP := hP.grow (N87.g)
    have hk0 := hk0.grow (N87.g)
    try have hkid := hkid.grow (N87.g)
    have B87 := N87.blk
    refine sr_call rfl (rc_call go_syntax_printer_write ev_f (args_cons (ev_t rfl) (args_cons (ev_t rfl) (args_nil))) rfl) (write_ok [[32], t.text, [32]] hP B87 (by omega) (by first | omega | (simp only [List.length_append, List.length_cons, List.length_nil, List.flatten_cons, List.flatten_nil, List.append_nil, tabsL, List.length_replicate]; omega) | (simp at hlen ⊢ <;> omega)) (by first | rfl | (simp [ht]; done) | (simpa using ht)) (Nat.le_of_ble_eq_true rfl)) ?_
    rintro v88 w88 ⟨rfl, hP, g88⟩
    refine ⟨fun h => absurd h (by decide), ?_⟩
    have g := g.trans g88
    replace B3 := B3.pf g88 rfl (by omega)
    replace B82 := B82.pf g88 rfl (by omega)
    replace B87 := B87.pf g88 rfl (by omega)
    have hk0 := hk0.pf g88 hD
    refine sr_sub [(0, _, _), (3, _, _)] (sub_cons rfl (sub_cons rfl (sub_nil _))) ?_
    refine sr_nil (hK19 _ _ ?_)
    refine sc_text [3, 3, 0, 3, 0, 1, 2] ?_
    refine sr_pu rfl (fun _ => rd_move (ev_t rfl)) ?_
    refine sr_pu rfl (fun _ => rd_field fo_api_Node_4 (ev_t rfl)) ?_
    refine sr_rd rfl (rd_load one_sl_api_Node (ev_t rfl) (fun _ => B3.at_ rfl)) ?_
    obtain ⟨hpe, p_92, c_92, hcell, hkid⟩ := kd_opt hk0 (i := 1) (by omega)
    refine sr_pu rfl (fun _ => rd_idxq el_sl_api_Node (ev_t rfl) ev_c (fun _ => by omega) (fun _ => hpe)) ?_
    refine sr_rd rfl (rd_loads agg_api_Node (ev_t rfl) rfl (fun _ => hcell)) ?_
    refine sr_buildSlice [_] rfl el_sl_int ze_int (parts_cons ev_c (parts_nil)) rfl rfl ?_
    intro b94 w94 N94
    have x94_3 := N94.ne B3
    have x94_82 := N94.ne B82
    have x94_87 := N94.ne B87
    have l94 := newge N94 g.size
    have g := g.trans (PF.of_g (N94.g))
    replace B3 := B3.grow (N94.g)
    replace B82 := B82.grow (N94.g)
    replace B87 := B87.grow (N94.g)
    have hP := hP.grow (N94.g)
    have hk0 := hk0.grow (N94.g)
    try have hkid := hkid.grow (N94.g)
    have B94 := N94.blk
    refine sr_call rfl (rc_call go_syntax_printer_inner ev_f (args_cons (ev_t rfl) (args_cons (ev_t rfl) (args_cons (ev_t rfl) (args_nil)))) rfl) (inner_ok hE1 [32] _ _ hkid hD hP B94 (by decide) (by first | omega | (simp only [List.length_append, List.length_cons, List.length_nil, List.flatten_cons, List.flatten_nil, List.append_nil, tabsL, List.length_replicate]; omega)) (by omega)) ?_
    rintro v95 w95 ⟨rfl, hP, g95⟩
    refine ⟨fun h => absurd h (by decide), ?_⟩
    have g := g.trans g95
    replace B3 := B3.pf g95 rfl (by omega)
    replace B82 := B82.pf g95 rfl (by omega)
    replace B87 := B87.pf g95 rfl (by omega)
    replace B94 := B94.pf g95 rfl (by omega)
    have hk0 := hk0.pf g95 hD
    refine sr_sub [] (sub_nil _) ?_
    refine sr_nil (t_end0 rfl ?_)
    refine ⟨rfl, ?_, g⟩
    rw [e]; simpa only [List.append_assoc, List.flatten_cons, List.flatten_nil, List.append_nil] using hP
  (try simp only [bsimp] at h6)
  refine sc_seq fun K20 hK20 => ?_
  refine sc_text [3, 3] ?_
  refine sr_pu rfl (fun _ => rd_eq (ev_t rfl) ev_c) ?_
  refine sr_pu rfl (fun _ => rd_assign (ev_t rfl)) ?_
  refine sr_sub [(0, _, _), (3, _, _), (5, _, _), (96, _, _)] (sub_cons rfl (sub_cons rfl (sub_cons rfl (sub_cons rfl (sub_nil _))))) ?_
  refine sr_nil (hK20 _ _ ?_)
  refine sc_cond (ev_t rfl) (fun h7 => ?_) (fun h7 => ?_)
  · replace h7 := of_decide_eq_true h7
    have hn0 := sh24 h7 hx
    have ht := digL_ne t.num.toNat
    have e := exT_24 h7 k
    rw [e] at hlen
    try simp only [List.length_append, List.length_cons, List.length_nil, List.flatten_cons, List.flatten_nil, List.append_nil, tabsL, List.length_replicate] at hlen
    refine sc_text [3, 3, 0, 1, 1, 2] ?_
    refine sr_pu rfl (fun _ => rd_move (ev_t rfl)) ?_
    refine sr_pu rfl (fun _ => rd_field fo_api_Node_2 (ev_t rfl)) ?_
    refine sr_rd rfl (rd_load one_int (ev_t rfl) (fun _ => B3.at_ rfl)) ?_
    refine sr_call rfl (rc_call go_strconv_Itoa ev_f (args_cons (ev_t rfl) (args_nil)) rfl) (itoa_ok t.num hn0 (ok_num hok) hP.tab) ?_
    rintro v101 w101 ⟨rfl, g101⟩
    refine ⟨fun _ => g101, ?_⟩
    have g := g.trans (PF.of_g (g101))
    replace B3 := B3.grow (g101)
    have hP := hP.grow (g101)
    have hk0 := hk0.grow (g101)
    try have hkid := hkid.grow (g101)
    refine sr_buildSlice [_] rfl el_sl_string ze_string (parts_cons (ev_t rfl) (parts_nil)) rfl rfl ?_
    intro b102 w102 N102
    have x102_3 := N102.ne B3
    have l102 := newge N102 g.size
    have g := g.trans (PF.of_g (N102.g))
    replace B3 := B3.grow (N102.g)
    have hP := hP.grow (N102.g)
    have hk0 := hk0.grow (N102.g)
    try have hkid := hkid.grow (N102.g)
    have B102 := N102.blk
    refine sr_call rfl (rc_call go_syntax_printer_write ev_f (args_cons (ev_t rfl) (args_cons (ev_t rfl) (args_nil))) rfl) (write_ok [digL t.num.toNat] hP B102 (by omega) (by first | omega | (simp only [List.length_append, List.length_cons, List.length_nil, List.flatten_cons, List.flatten_nil, List.append_nil, tabsL, List.length_replicate]; omega) | (simp at hlen ⊢ <;> omega)) (by first | rfl | (simp [ht]; done) | (simpa using ht)) (Nat.le_of_ble_eq_true rfl)) ?_
    rintro v103 w103 ⟨rfl, hP, g103⟩
    refine ⟨fun h => absurd h (by decide), ?_⟩
    have g := g.trans g103
    replace B3 := B3.pf g103 rfl (by omega)
    replace B102 := B102.pf g103 rfl (by omega)
    have hk0 := hk0.pf g103 hD
    refine sr_sub [] (sub_nil _) ?_
    refine sr_nil (t_end0 rfl ?_)
    refine ⟨rfl, ?_, g⟩
    rw [e]; simpa only [List.append_assoc, List.flatten_cons, List.flatten_nil, List.append_nil] using hP
  (try simp only [bsimp] at h7)
  refine sc_seq fun K21 hK21 => ?_
  refine sc_text [3, 3] ?_
  refine sr_pu rfl (fun _ => rd_eq (ev_t rfl) ev_c) ?_
  refine sr_pu rfl (fun _ => rd_assign (ev_t rfl)) ?_
  refine sr_sub [(0, _, _), (3, _, _), (5, _, _), (104, _, _)] (sub_cons rfl (sub_cons rfl (sub_cons rfl (sub_cons rfl (sub_nil _))))) ?_
  refine sr_nil (hK21 _ _ ?_)
  refine sc_cond (ev_t rfl) (fun h8 => ?_) (fun h8 => ?_)
  · replace h8 := of_decide_eq_true h8
    have ht : (bif decide (t.num = 1) then [116, 114, 117, 101] else [102, 97, 108, 115, 101] : List UInt8) ≠ [] := by cases decide (t.num = 1) <;> simp
    have e := exT_25 h8 k
    rw [e] at hlen
    try simp only [List.length_append, List.length_cons, List.length_nil, List.flatten_cons, List.flatten_nil, List.append_nil, tabsL, List.length_replicate] at hlen
    refine sc_text [3, 3, 0, 3, 1, 1, 2] ?_
    refine sr_pu rfl (fun _ => rd_move (ev_t rfl)) ?_
    refine sr_pu rfl (fun _ => rd_field fo_api_Node_2 (ev_t rfl)) ?_
    refine sr_rd rfl (rd_load one_int (ev_t rfl) (fun _ => B3.at_ rfl)) ?_
    refine sr_pu rfl (fun _ => rd_eq (ev_t rfl) ev_c) ?_
    refine sr_call rfl (rc_call go_strconv_FormatBool ev_f (args_cons (ev_t rfl) (args_nil)) rfl) (fbool_ok _ _) ?_
    rintro v110 w110 ⟨rfl, g110⟩
    refine ⟨fun _ => g110, ?_⟩
    have g := g.trans (PF.of_g (g110))
    replace B3 := B3.grow (g110)
    have hP := hP.grow (g110)
    have hk0 := hk0.grow (g110)
    try have hkid := hkid.grow (g110)
    refine sr_buildSlice [_] rfl el_sl_string ze_string (parts_cons (ev_t rfl) (parts_nil)) rfl rfl ?_
    intro b111 w111 N111
    have x111_3 := N111.ne B3
    have l111 := newge N111 g.size
    have g := g.trans (PF.of_g (N111.g))
    replace B3 := B3.grow (N111.g)
    have hP := hP.grow (N111.g)
    have hk0 := hk0.grow (N111.g)
    try have hkid := hkid.grow (N111.g)
    have B111 := N111.blk
    refine sr_call rfl (rc_call go_syntax_printer_write ev_f (args_cons (ev_t rfl) (args_cons (ev_t rfl) (args_nil))) rfl) (write_ok [bif decide (t.num = 1) then [116, 114, 117, 101] else [102, 97, 108, 115, 101]] hP B111 (by omega) (by first | omega | (simp only [List.length_append, List.length_cons, List.length_nil, List.flatten_cons, List.flatten_nil, List.append_nil, tabsL, List.length_replicate]; omega) | (simp at hlen ⊢ <;> omega)) (by first | rfl | (simp [ht]; done) | (simpa using ht)) (Nat.le_of_ble_eq_true rfl)) ?_
    rintro v112 w112 ⟨rfl, hP, g112⟩
    refine ⟨fun h => absurd h (by decide), ?_⟩
    have g := g.trans g112
    replace B3 := B3.pf g112 rfl (by omega)
    replace B111 := B111.pf g112 rfl (by omega)
    have hk0 := hk0.pf g112 hD
    refine sr_sub [] (sub_nil _) ?_
    refine sr_nil (t_end0 rfl ?_)
    refine ⟨rfl, ?_, g⟩
    rw [e]; simpa only [List.append_assoc, List.flatten_cons, List.flatten_nil, List.append_nil] using hP
  (try simp only [bsimp] at h8)
  refine sc_seq fun K22 hK22 => ?_
  refine sc_text [3, 3] ?_
  refine sr_pu rfl (fun _ => rd_eq (ev_t rfl) ev_c) ?_
  refine sr_pu rfl (fun _ => rd_assign (ev_t rfl)) ?_
  refine sr_sub [(0, _, _), (3, _, _), (5, _, _), (113, _, _)] (sub_cons rfl (sub_cons rfl (sub_cons rfl (sub_cons rfl (sub_nil _))))) ?_
  refine sr_nil (hK22 _ _ ?_)
  refine sc_cond (ev_t rfl) (fun h9 => ?_) (fun h9 => ?_)
  · replace h9 := of_decide_eq_true h9
    have e := exT_26 h9 k
    rw [e] at hlen
    try simp only [List.length_append, List.length_cons, List.length_nil, List.flatten_cons, List.flatten_nil, List.append_nil, tabsL, List.length_replicate] at hlen
    refine sc_text [3, 1, 2] ?_
    refine sr_pu rfl (fun _ => rd_move (ev_t rfl)) ?_
    refine sr_buildSlice [_] rfl el_sl_string ze_string (parts_cons ev_c (parts_nil)) rfl rfl ?_
    intro b116 w116 N116
    have x116_3 := N116.ne B3
    have l116 := newge N116 g.size
    have g := g.trans (PF.of_g (N116.g))
    replace B3 := B3.grow (N116.g)
    have hP := hP.grow (N116.g)
    have hk0 := hk0.grow (N116.g)
    try have hkid := hkid.grow (N116.g)
    have B116 := N116.blk
    refine sr_call rfl (rc_call go_syntax_printer_write ev_f (args_cons (ev_t rfl) (args_cons (ev_t rfl) (args_nil))) rfl) (write_ok [[110, 105, 108]] hP B116 (by omega) (by first | omega | (simp only [List.length_append, List.length_cons, List.length_nil, List.flatten_cons, List.flatten_nil, List.append_nil, tabsL, List.length_replicate]; omega) | (simp at hlen ⊢ <;> omega)) (by first | rfl | (simp [ht]; done) | (simpa using ht)) (Nat.le_of_ble_eq_true rfl)) ?_
    rintro v117 w117 ⟨rfl, hP, g117⟩
    refine ⟨fun h => absurd h (by decide), ?_⟩
    have g := g.trans g117
    replace B3 := B3.pf g117 rfl (by omega)
    replace B116 := B116.pf g117 rfl (by omega)
    have hk0 := hk0.pf g117 hD
    refine sr_sub [] (sub_nil _) ?_
    refine sr_nil (t_end0 rfl ?_)
    refine ⟨rfl, ?_, g⟩
    rw [e]; simpa only [List.append_assoc, List.flatten_cons, List.flatten_nil, List.append_nil] using hP
  (try simp only [bsimp] at h9)
  refine sc_seq fun K23 hK23 => ?_
  refine sc_text [3, 3] ?_
  refine sr_pu rfl (fun _ => rd_eq (ev_t rfl) ev_c) ?_
  refine sr_pu rfl (fun _ => rd_assign (ev_t rfl)) ?_
  refine sr_sub [(0, _, _), (3, _, _), (5, _, _), (118, _, _)] (sub_cons rfl (sub_cons rfl (sub_cons rfl (sub_cons rfl (sub_nil _))))) ?_
  refine sr_nil (hK23 _ _ ?_)
  refine sc_cond (ev_t rfl) (fun h10 => ?_) (fun h10 => ?_)
  · replace h10 := of_decide_eq_true h10
    have ht := sh27 h10 hx
    have e := exT_27 h10 k
    rw [e] at hlen
    try simp only [List.length_append, List.length_cons, List.length_nil, List.flatten_cons, List.flatten_nil, List.append_nil, tabsL, List.length_replicate] at hlen
    refine sc_text [3, 3, 0, 1, 2] ?_
    refine sr_pu rfl (fun _ => rd_move (ev_t rfl)) ?_
    refine sr_pu rfl (fun _ => rd_field fo_api_Node_1 (ev_t rfl)) ?_
    refine sr_rd rfl (rd_load one_string (ev_t rfl) (fun _ => B3.at_ rfl)) ?_
    refine sr_buildSlice [_] rfl el_sl_string ze_string (parts_cons (ev_t rfl) (parts_nil)) rfl rfl ?_
    intro b123 w123 N123
    have x123_3 := N123.ne B3
    have l123 := newge N123 g.size
    have g := g.trans (PF.of_g (N123.g))
    replace B3 := B3.grow (N123.g)
    have hP := hP.grow (N123.g)
    have hk0 := hk0.grow (N123.g)
    try have hkid := hkid.grow (N123.g)
    have B123 := N123.blk
    refine sr_call rfl (rc_call go_syntax_printer_write ev_f (args_cons (ev_t rfl) (args_cons (ev_t rfl) (args_nil))) rfl) (write_ok [t.text] hP B123 (by omega) (by first | omega | (simp only [List.length_append, List.length_cons, List.length_nil, List.flatten_cons, List.flatten_nil, List.append_nil, tabsL, List.length_replicate]; omega) | (simp at hlen ⊢ <;> omega)) (by first | rfl | (simp [ht]; done) | (simpa using ht)) (Nat.le_of_ble_eq_true rfl)) ?_
    rintro v124 w124 ⟨rfl, hP, g124⟩
    refine ⟨fun h => absurd h (by decide), ?_⟩
    have g := g.trans g124
    replace B3 := B3.pf g124 rfl (by omega)
    replace B123 := B123.pf g124 rfl (by omega)
    have hk0 := hk0.pf g124 hD
    refine sr_sub [] (sub_nil _) ?_
    refine sr_nil (t_end0 rfl ?_)
    refine ⟨rfl, ?_, g⟩
    rw [e]; simpa only [List.append_assoc, List.flatten_cons, List.flatten_nil, List.append_nil] using hP
  (try simp only [bsimp] at h10)
  refine sc_seq fun K24 hK24 => ?_
  refine sc_text [3, 3] ?_
  refine sr_pu rfl (fun _ => rd_eq (ev_t rfl) ev_c) ?_
  refine sr_pu rfl (fun _ => rd_assign (ev_t rfl)) ?_
  refine sr_sub [(0, _, _), (3, _, _), (5, _, _), (125, _, _)] (sub_cons rfl (sub_cons rfl (sub_cons rfl (sub_cons rfl (sub_nil _))))) ?_
  refine sr_nil (hK24 _ _ ?_)
  refine sc_cond (ev_t rfl) (fun h11 => ?_) (fun h11 => ?_)
  · replace h11 := of_decide_eq_true h11
    have ht := sh34 h11 hx
    have e := exT_34 h11 k
    rw [e] at hlen
    try simp only [List.length_append, List.length_cons, List.length_nil, List.flatten_cons, List.flatten_nil, List.append_nil, tabsL, List.length_replicate] at hlen
    refine sc_text [3, 3, 0, 1, 2] ?_
    refine sr_pu rfl (fun _ => rd_move (ev_t rfl)) ?_
    refine sr_pu rfl (fun _ => rd_field fo_api_Node_1 (ev_t rfl)) ?_
    refine sr_rd rfl (rd_load one_string (ev_t rfl) (fun _ => B3.at_ rfl)) ?_
    refine sr_buildSlice [_, _, _] rfl el_sl_string ze_string (parts_cons ev_c (parts_cons (ev_t rfl) (parts_cons ev_c (parts_nil)))) rfl rfl ?_
    intro b130 w130 N130
    have x130_3 := N130.ne B3
    have l130 := newge N130 g.size
    have g := g.trans (PF.of_g (N130.g))
    replace B3 := B3.grow (N130.g)
    have hP := hP.grow (N130.g)
    have hk0 := hk0.grow (N130.g)
    try have hkid := hkid.grow (N130.g)
    have B130 := N130.blk
    refine sr_call rfl (rc_call go_syntax_printer_write ev_f (args_cons (ev_t rfl) (args_cons (ev_t rfl) (args_nil))) rfl) (write_ok [[110, 101, 119, 40], t.text, [41]] hP B130 (by omega) (by first | omega | (simp only [List.length_append, List.length_cons, List.length_nil, List.flatten_cons, List.flatten_nil, List.append_nil, tabsL, List.length_replicate]; omega) | (simp at hlen ⊢ <;> omega)) (by first | rfl | (simp [ht]; done) | (simpa using ht)) (Nat.le_of_ble_eq_true rfl)) ?_
    rintro v131 w131 ⟨rfl, hP, g131⟩
    refine ⟨fun h => absurd h (by decide), ?_⟩
    have g := g.trans g131
    replace B3 := B3.pf g131 rfl (by omega)
    replace B130 := B130.pf g131 rfl (by omega)
    have hk0 := hk0.pf g131 hD
    refine sr_sub [] (sub_nil _) ?_
    refine sr_nil (t_end0 rfl ?_)
    refine ⟨rfl, ?_, g⟩
    rw [e]; simpa only [List.append_assoc, List.flatten_cons, List.flatten_nil, List.append_nil] using hP
  (try simp only [bsimp] at h11)
  refine sc_seq fun K25 hK25 => ?_
  refine sc_text [3, 3] ?_
  refine sr_pu rfl (fun _ => rd_eq (ev_t rfl) ev_c) ?_
  refine sr_pu rfl (fun _ => rd_assign (ev_t rfl)) ?_
  refine sr_sub [(0, _, _), (3, _, _), (5, _, _), (132, _, _)] (sub_cons rfl (sub_cons rfl (sub_cons rfl (sub_cons rfl (sub_nil _))))) ?_
  refine sr_nil (hK25 _ _ ?_)
  refine sc_cond (ev_t rfl) (fun h12 => ?_) (fun h12 => ?_)
  · replace h12 := of_decide_eq_true h12
    obtain ⟨hl, he0⟩ := sh35 h12 hx
    have hE0 := ih.e (by omega) he0 hok
    have hEs := ih.es (all_one hl he0) hok
    have e := exT_35 h12 hl k
    rw [e] at hlen
    try simp only [List.length_append, List.length_cons, List.length_nil, List.flatten_cons, List.flatten_nil, List.append_nil, tabsL, List.length_replicate] at hlen
    refine sc_seq fun K26 hK26 => ?_
    refine sc_text [3, 1, 2] ?_
    refine sr_pu rfl (fun _ => rd_move (ev_t rfl)) ?_
    refine sr_buildSlice [_] rfl el_sl_string ze_string (parts_cons ev_c (parts_nil)) rfl rfl ?_
    intro b135 w135 N135
    have x135_3 := N135.ne B3
    have l135 := newge N135 g.size
    have g := g.trans (PF.of_g (N135.g))
    replace B3 := B3.grow (N135.g)
    have hP := hP.grow (N135.g)
    have hk0 := hk0.grow (N135.g)
    try have hkid := hkid.grow (N135.g)
    have B135 := N135.blk
    refine sr_call rfl (rc_call go_syntax_printer_write ev_f (args_cons (ev_t rfl) (args_cons (ev_t rfl) (args_nil))) rfl) (write_ok [[109, 97, 107, 101, 40, 91, 93, 105, 110, 116, 44, 32]] hP B135 (by omega) (by first | omega | (simp only [List.length_append, List.length_cons, List.length_nil, List.flatten_cons, List.flatten_nil, List.append_nil, tabsL, List.length_replicate]; omega) | (simp at hlen ⊢ <;> omega)) (by first | rfl | (simp [ht]; done) | (simpa using ht)) (Nat.le_of_ble_eq_true rfl)) ?_
    rintro v136 w136 ⟨rfl, hP, g136⟩
    refine ⟨fun h => absurd h (by decide), ?_⟩
    have g := g.trans g136
    replace B3 := B3.pf g136 rfl (by omega)
    replace B135 := B135.pf g136 rfl (by omega)
    have hk0 := hk0.pf g136 hD
    refine sr_sub [(0, _, _), (3, _, _)] (sub_cons rfl (sub_cons rfl (sub_nil _))) ?_
    refine sr_nil (hK26 _ _ ?_)
    refine sc_seq fun K27 hK27 => ?_
    refine sc_text [3, 3, 0, 2] ?_
    refine sr_pu rfl (fun _ => rd_move (ev_t rfl)) ?_
    refine sr_pu rfl (fun _ => rd_field fo_api_Node_4 (ev_t rfl)) ?_
    refine sr_rd rfl (rd_load one_sl_api_Node (ev_t rfl) (fun _ => B3.at_ rfl)) ?_
    refine sr_call rfl (rc_call go_syntax_printer_list ev_f (args_cons (ev_t rfl) (args_cons (ev_t rfl) (args_nil))) rfl) (list_ok hEs hk0 hD hP (by first | omega | (simp only [List.length_append, List.length_cons, List.length_nil, List.flatten_cons, List.flatten_nil, List.append_nil, tabsL, List.length_replicate]; omega)) (by omega)) ?_
    rintro v140 w140 ⟨rfl, hP, g140⟩
    refine ⟨fun h => absurd h (by decide), ?_⟩
    have g := g.trans g140
    replace B3 := B3.pf g140 rfl (by omega)
    replace B135 := B135.pf g140 rfl (by omega)
    have hk0 := hk0.pf g140 hD
    refine sr_sub [(0, _, _)] (sub_cons rfl (sub_nil _)) ?_
    refine sr_nil (hK27 _ _ ?_)
    refine sc_text [3, 1, 2] ?_
    refine sr_pu rfl (fun _ => rd_move (ev_t rfl)) ?_
    refine sr_buildSlice [_] rfl el_sl_string ze_string (parts_cons ev_c (parts_nil)) rfl rfl ?_
    intro b142 w142 N142
    have x142_3 := N142.ne B3
    have x142_135 := N142.ne B135
    have l142 := newge N142 g.size
    have g := g.trans (PF.of_g (N142.g))
    replace B3 := B3.grow (N142.g)
    replace B135 := B135.grow (N142.g)
    have hP := hP.grow (N142.g)
    have hk0 := hk0.grow (N142.g)
    try have hkid := hkid.grow (N142.g)
    have B142 := N142.blk
    refine sr_call rfl (rc_call go_syntax_printer_write ev_f (args_cons (ev_t rfl) (args_cons (ev_t rfl) (args_nil))) rfl) (write_ok [[41]] hP B142 (by omega) (by first | omega | (simp only [List.length_append, List.length_cons, List.length_nil, List.flatten_cons, List.flatten_nil, List.append_nil, tabsL, List.length_replicate]; omega) | (simp at hlen ⊢ <;> omega)) (by first | rfl | (simp [ht]; done) | (simpa using ht)) (Nat.le_of_ble_eq_true rfl)) ?_
    rintro v143 w143 ⟨rfl, hP, g143⟩
    refine ⟨fun h => absurd h (by decide), ?_⟩
    have g := g.trans g143
    replace B3 := B3.pf g143 rfl (by omega)
    replace B135 := B135.pf g143 rfl (by omega)
    replace B142 := B142.pf g143 rfl (by omega)
    have hk0 := hk0.pf g143 hD
    refine sr_sub [] (sub_nil _) ?_
    refine sr_nil (t_end0 rfl ?_)
    refine ⟨rfl, ?_, g⟩
    rw [e]; simpa only [List.append_assoc, List.flatten_cons, List.flatten_nil, List.append_nil] using hP
  (try simp only [bsimp] at h12)
  refine sc_seq fun K28 hK28 => ?_
  refine sc_text [3, 3] ?_
  refine sr_pu rfl (fun _ => rd_eq (ev_t rfl) ev_c) ?_
  refine sr_pu rfl (fun _ => rd_assign (ev_t rfl)) ?_
  refine sr_sub [(0, _, _), (3, _, _), (5, _, _), (144, _, _)] (sub_cons rfl (sub_cons rfl (sub_cons rfl (sub_cons rfl (sub_nil _))))) ?_
  refine sr_nil (hK28 _ _ ?_)
  refine sc_cond (ev_t rfl) (fun h13 => ?_) (fun h13 => ?_)
  · replace h13 := of_decide_eq_true h13
    obtain ⟨hl, he0⟩ := sh36 h13 hx
    have hE0 := ih.e (by omega) he0 hok
    have hEs := ih.es (all_one hl he0) hok
    have e := exT_36 h13 hl k
    rw [e] at hlen
    try simp only [List.length_append, List.length_cons, List.length_nil, List.flatten_cons, List.flatten_nil, List.append_nil, tabsL, List.length_replicate] at hlen
    refine sc_seq fun K29 hK29 => ?_
    refine sc_text [3, 1, 2] ?_
    refine sr_pu rfl (fun _ => rd_move (ev_t rfl)) ?_
    refine sr_buildSlice [_] rfl el_sl_string ze_string (parts_cons ev_c (parts_nil)) rfl rfl ?_
    intro b147 w147 N147
    have x147_3 := N147.ne B3
    have l147 := newge N147 g.size
    have g := g.trans (PF.of_g (N147.g))
    replace B3 := B3.grow (N147.g)
    have hP := hP.grow (N147.g)
    have hk0 := hk0.grow (N147.g)
    try have hkid := hkid.grow (N147.g)
    have B147 := N147.blk
    refine sr_call rfl (rc_call go_syntax_printer_write ev_f (args_cons (ev_t rfl) (args_cons (ev_t rfl) (args_nil))) rfl) (write_ok [[109, 97, 107, 101, 40, 99, 104, 97, 110, 32, 105, 110, 116, 44, 32]] hP B147 (by omega) (by first | omega | (simp only [List.length_append, List.length_cons, List.length_nil, List.flatten_cons, List.flatten_nil, List.append_nil, tabsL, List.length_replicate]; omega) | (simp at hlen ⊢ <;> omega)) (by first | rfl | (simp [ht]; done) | (simpa using ht)) (Nat.le_of_ble_eq_true rfl)) ?_
    rintro v148 w148 ⟨rfl, hP, g148⟩
    refine ⟨fun h => absurd h (by decide), ?_⟩
    have g := g.trans g148
    replace B3 := B3.pf g148 rfl (by omega)
    replace B147 := B147.pf g148 rfl (by omega)
    have hk0 := hk0.pf g148 hD
    refine sr_sub [(0, _, _), (3, _, _)] (sub_cons rfl (sub_cons rfl (sub_nil _))) ?_
    refine sr_nil (hK29 _ _ ?_)
    refine sc_seq fun K30 hK30 => ?_
    refine sc_text [3, 3, 0, 2] ?_
    refine sr_pu rfl (fun _ => rd_move (ev_t rfl)) ?_
    refine sr_pu rfl (fun _ => rd_field fo_api_Node_4 (ev_t rfl)) ?_
    refine sr_rd rfl (rd_load one_sl_api_Node (ev_t rfl) (fun _ => B3.at_ rfl)) ?_
    refine sr_call rfl (rc_call go_syntax_printer_list ev_f (args_cons (ev_t rfl) (args_cons (ev_t rfl) (args_nil))) rfl) (list_ok hEs hk0 hD hP (by first | omega | (simp only [List.length_append, List.length_cons, List.length_nil, List.flatten_cons, List.flatten_nil, List.append_nil, tabsL, List.length_replicate]; omega)) (by omega)) ?_
    rintro v152 w152 ⟨rfl, hP, g152⟩
    refine ⟨fun h => absurd h (by decide), ?_⟩
    have g := g.trans g152
    replace B3 := B3.pf g152 rfl (by omega)
    replace B147 := B147.pf g152 rfl (by omega)
    have hk0 := hk0.pf g152 hD
    refine sr_sub [(0, _, _)] (sub_cons rfl (sub_nil _)) ?_
    refine sr_nil (hK30 _ _ ?_)
    refine sc_text [3, 1, 2] ?_
    refine sr_pu rfl (fun _ => rd_move (ev_t rfl)) ?_
    refine sr_buildSlice [_] rfl el_sl_string ze_string (parts_cons ev_c (parts_nil)) rfl rfl ?_
    intro b154 w154 N154
    have x154_3 := N154.ne B3
    have x154_147 := N154.ne B147
    have l154 := newge N154 g.size
    have g := g.trans (PF.of_g (N154.g))
    replace B3 := B3.grow (N154.g)
    replace B147 := B147.grow (N154.g)
    have hP := hP.grow (N154.g)
    have hk0 := hk0.grow (N154.g)
    try have hkid := hkid.grow (N154.g)
    have B154 := N154.blk
    refine sr_call rfl (rc_call go_syntax_printer_write ev_f (args_cons (ev_t rfl) (args_cons (ev_t rfl) (args_nil))) rfl) (write_ok [[41]] hP B154 (by omega) (by first | omega | (simp only [List.length_append, List.length_cons, List.length_nil, List.flatten_cons, List.flatten_nil, List.append_nil, tabsL, List.length_replicate]; omega) | (simp at hlen ⊢ <;> omega)) (by first | rfl | (simp [ht]; done) | (simpa using ht)) (Nat.le_of_ble_eq_true rfl)) ?_
    rintro v155 w155 ⟨rfl, hP, g155⟩
    refine ⟨fun h => absurd h (by decide), ?_⟩
    have g := g.trans g155
    replace B3 := B3.pf g155 rfl (by omega)
    replace B147 := B147.pf g155 rfl (by omega)
    replace B154 := B154.pf g155 rfl (by omega)
    have hk0 := hk0.pf g155 hD
    refine sr_sub [] (sub_nil _) ?_
    refine sr_nil (t_end0 rfl ?_)
    refine ⟨rfl, ?_, g⟩
    rw [e]; simpa only [List.append_assoc, List.flatten_cons, List.flatten_nil, List.append_nil] using hP
  (try simp only [bsimp] at h13)
  refine sc_seq fun K31 hK31 => ?_
  refine sc_text [3, 3] ?_
  refine sr_pu rfl (fun _ => rd_eq (ev_t rfl) ev_c) ?_
  refine sr_pu rfl (fun _ => rd_assign (ev_t rfl)) ?_
  refine sr_sub [(0, _, _), (3, _, _), (5, _, _), (156, _, _)] (sub_cons rfl (sub_cons rfl (sub_cons rfl (sub_cons rfl (sub_nil _))))) ?_
  refine sr_nil (hK31 _ _ ?_)
  refine sc_cond (ev_t rfl) (fun h14 => ?_) (fun h14 => ?_)
  · replace h14 := of_decide_eq_true h14
    obtain ⟨hl, he0⟩ := sh37 h14 hx
    have hE0 := ih.e (by omega) he0 hok
    have hEs := ih.es (all_one hl he0) hok
    have e := exT_37 h14 hl k
    rw [e] at hlen
    try simp only [List.length_append, List.length_cons, List.length_nil, List.flatten_cons, List.flatten_nil, List.append_nil, tabsL, List.length_replicate] at hlen
    refine sc_seq fun K32 hK32 => ?_
    refine sc_text [3, 1, 2] ?_
    refine sr_pu rfl (fun _ => rd_move (ev_t rfl)) ?_
    refine sr_buildSlice [_] rfl el_sl_string ze_string (parts_cons ev_c (parts_nil)) rfl rfl ?_
    intro b159 w159 N159
    have x159_3 := N159.ne B3
    have l159 := newge N159 g.size
    have g := g.trans (PF.of_g (N159.g))
    replace B3 := B3.grow (N159.g)
    have hP := hP.grow (N159.g)
    have hk0 := hk0.grow (N159.g)
    try have hkid := hkid.grow (N159.g)
    have B159 := N159.blk
    refine sr_call rfl (rc_call go_syntax_printer_write ev_f (args_cons (ev_t rfl) (args_cons (ev_t rfl) (args_nil))) rfl) (write_ok [[108, 101, 110, 40]] hP B159 (by omega) (by first | omega | (simp only [List.length_append, List.length_cons, List.length_nil, List.flatten_cons, List.flatten_nil, List.append_nil, tabsL, List.length_replicate]; omega) | (simp at hlen ⊢ <;> omega)) (by first | rfl | (simp [ht]; done) | (simpa using ht)) (Nat.le_of_ble_eq_true rfl)) ?_
    rintro v160 w160 ⟨rfl, hP, g160⟩
    refine ⟨fun h => absurd h (by decide), ?_⟩
    have g := g.trans g160
    replace B3 := B3.pf g160 rfl (by omega)
    replace B159 := B159.pf g160 rfl (by omega)
    have hk0 := hk0.pf g160 hD
    refine sr_sub [(0, _, _), (3, _, _)] (sub_cons rfl (sub_cons rfl (sub_nil _))) ?_
    refine sr_nil (hK32 _ _ ?_)
    refine sc_seq fun K33 hK33 => ?_
    refine sc_text [3, 3, 0, 2] ?_
    refine sr_pu rfl (fun _ => rd_move (ev_t rfl)) ?_
    refine sr_pu rfl (fun _ => rd_field fo_api_Node_4 (ev_t rfl)) ?_
    refine sr_rd rfl (rd_load one_sl_api_Node (ev_t rfl) (fun _ => B3.at_ rfl)) ?_
    refine sr_call rfl (rc_call go_syntax_printer_list ev_f (args_cons (ev_t rfl) (args_cons (ev_t rfl) (args_nil))) rfl) (list_ok hEs hk0 hD hP (by first | omega | (simp only [List.length_append, List.length_cons, List.length_nil, List.flatten_cons, List.flatten_nil, List.append_nil, tabsL, List.length_replicate]; omega)) (by omega)) ?_
    rintro v164 w164 ⟨rfl, hP, g164⟩
    refine ⟨fun h => absurd h (by decide), ?_⟩
    have g := g.trans g164
    replace B3 := B3.pf g164 rfl (by omega)
    replace B159 := B159.pf g164 rfl (by omega)
    have hk0 := hk0.pf g164 hD
    refine sr_sub [(0, _, _)] (sub_cons rfl (sub_nil _)) ?_
    refine sr_nil (hK33 _ _ ?_)
    refine sc_text [3, 1, 2] ?_
    refine sr_pu rfl (fun _ => rd_move (ev_t rfl)) ?_
    refine sr_buildSlice [_] rfl el_sl_string ze_string (parts_cons ev_c (parts_nil)) rfl rfl ?_
    intro b166 w166 N166
    have x166_3 := N166.ne B3
    have x166_159 := N166.ne B159
    have l166 := newge N166 g.size
    have g := g.trans (PF.of_g (N166.g))
    replace B3 := B3.grow (N166.g)
    replace B159 := B159.grow (N166.g)
    have hP := hP.grow (N166.g)
    have hk0 := hk0.grow (N166.g)
    try have hkid := hkid.grow (N166.g)
    have B166 := N166.blk
    refine sr_call rfl (rc_call go_syntax_printer_write ev_f (args_cons (ev_t rfl) (args_cons (ev_t rfl) (args_nil))) rfl) (write_ok [[41]] hP B166 (by omega) (by first | omega | (simp only [List.length_append, List.length_cons, List.length_nil, List.flatten_cons, List.flatten_nil, List.append_nil, tabsL, List.length_replicate]; omega) | (simp at hlen ⊢ <;> omega)) (by first | rfl | (simp [ht]; done) | (simpa using ht)) (Nat.le_of_ble_eq_true rfl)) ?_
    rintro v167 w167 ⟨rfl, hP, g167⟩
    refine ⟨fun h => absurd h (by decide), ?_⟩
    have g := g.trans g167
    replace B3 := B3.pf g167 rfl (by omega)
    replace B159 := B159.pf g167 rfl (by omega)
    replace B166 := B166.pf g167 rfl (by omega)
    have hk0 := hk0.pf g167 hD
    refine sr_sub [] (sub_nil _) ?_
    refine sr_nil (t_end0 rfl ?_)
    refine ⟨rfl, ?_, g⟩
    rw [e]; simpa only [List.append_assoc, List.flatten_cons, List.flatten_nil, List.append_nil] using hP
  (try simp only [bsimp] at h14)
  refine sc_seq fun K34 hK34 => ?_
  refine sc_text [3, 3] ?_
  refine sr_pu rfl (fun _ => rd_eq (ev_t rfl) ev_c) ?_
  refine sr_pu rfl (fun _ => rd_assign (ev_t rfl)) ?_
  refine sr_sub [(0, _, _), (3, _, _), (168, _, _)] (sub_cons rfl (sub_cons rfl (sub_cons rfl (sub_nil _)))) ?_
  refine sr_nil (hK34 _ _ ?_)
  refine sc_cond (ev_t rfl) (fun h15 => ?_) (fun h15 => ?_)
  · replace h15 := of_decide_eq_true h15
    obtain ⟨hl, hb0⟩ := sh38 h15 hx
    have hB0 := ih.b (by omega) hb0 hok
    have hc0 := count_kidAt (t := t) (i := 0) (by omega)
    have e := exT_38 h15 hl k
    rw [e] at hlen
    try simp only [List.length_append, List.length_cons, List.length_nil, List.flatten_cons, List.flatten_nil, List.append_nil, tabsL, List.length_replicate] at hlen
    refine sc_seq fun K35 hK35 => ?_
    refine sc_text [3, 1, 2] ?_
    refine sr_pu rfl (fun _ => rd_move (ev_t rfl)) ?_
    refine sr_buildSlice [_] rfl el_sl_string ze_string (parts_cons ev_c (parts_nil)) rfl rfl ?_
    intro b171 w171 N171
    have x171_3 := N171.ne B3
    have l171 := newge N171 g.size
    have g := g.trans (PF.of_g (N171.g))
    replace B3 := B3.grow (N171.g)
    have hP := hP.grow (N171.g)
    have hk0 := hk0.grow (N171.g)
    try have hkid := hkid.grow (N171.g)
    have B171 := N171.blk
    refine sr_call rfl (rc_call go_syntax_printer_write ev_f (args_cons (ev_t rfl) (args_cons (ev_t rfl) (args_nil))) rfl) (write_ok [[102, 117, 110, 99, 40, 41, 32]] hP B171 (by omega) (by first | omega | (simp only [List.length_append, List.length_cons, List.length_nil, List.flatten_cons, List.flatten_nil, List.append_nil, tabsL, List.length_replicate]; omega) | (simp at hlen ⊢ <;> omega)) (by first | rfl | (simp [ht]; done) | (simpa using ht)) (Nat.le_of_ble_eq_true rfl)) ?_
    rintro v172 w172 ⟨rfl, hP, g172⟩
    refine ⟨fun h => absurd h (by decide), ?_⟩
    have g := g.trans g172
    replace B3 := B3.pf g172 rfl (by omega)
    replace B171 := B171.pf g172 rfl (by omega)
    have hk0 := hk0.pf g172 hD
    refine sr_sub [(0, _, _), (3, _, _)] (sub_cons rfl (sub_cons rfl (sub_nil _))) ?_
    refine sr_nil (hK35 _ _ ?_)
    refine sc_text [3, 3, 0, 3, 0, 2] ?_
    refine sr_pu rfl (fun _ => rd_move (ev_t rfl)) ?_
    refine sr_pu rfl (fun _ => rd_field fo_api_Node_4 (ev_t rfl)) ?_
    refine sr_rd rfl (rd_load one_sl_api_Node (ev_t rfl) (fun _ => B3.at_ rfl)) ?_
    obtain ⟨hpe, p_176, c_176, hcell, hkid⟩ := kd_opt hk0 (i := 0) (by omega)
    refine sr_pu rfl (fun _ => rd_idxq el_sl_api_Node (ev_t rfl) ev_c (fun _ => by omega) (fun _ => hpe)) ?_
    refine sr_rd rfl (rd_loads agg_api_Node (ev_t rfl) rfl (fun _ => hcell)) ?_
    refine sr_call rfl (rc_call go_syntax_printer_block ev_f (args_cons (ev_t rfl) (args_cons (ev_t rfl) (args_nil))) rfl) (hB0 _ _ D n0 b _ k _ hkid hD hP (by first | omega | (simp only [List.length_append, List.length_cons, List.length_nil, List.flatten_cons, List.flatten_nil, List.append_nil, tabsL, List.length_replicate]; omega)) (by omega)) ?_
    rintro v178 w178 ⟨rfl, hP, g178⟩
    refine ⟨fun h => absurd h (by decide), ?_⟩
    have g := g.trans g178
    replace B3 := B3.pf g178 rfl (by omega)
    replace B171 := B171.pf g178 rfl (by omega)
    have hk0 := hk0.pf g178 hD
    refine sr_sub [] (sub_nil _) ?_
    refine sr_nil (t_end0 rfl ?_)
    refine ⟨rfl, ?_, g⟩
    rw [e]; simpa only [List.append_assoc, List.flatten_cons, List.flatten_nil, List.append_nil] using hP
  (try simp only [bsimp] at h15)
  exfalso; have hks := exp_kinds hx; simp only [bsimp, decide_eq_false_iff_not] at h1 h2 h3 h4 h5 h6 h7 h8 h9 h10 h11 h12 h13 h14 h15; omega
end Go.Rk
