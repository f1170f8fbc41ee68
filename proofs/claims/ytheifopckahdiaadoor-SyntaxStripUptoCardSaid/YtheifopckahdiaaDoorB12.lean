/- Merged texts of one road: Pro, Rtd, Sme, Awk, Awl. Conditions: each text's own. -/
import Derived.Test.YtheifopckahdiaaDoorB11
import Derived.Test.YtheifopckahdiaaDoorB08
import Derived.Test.YtheifopckahdiaaDoorB04
import Derived.Test.YtheifopckahdiaaDoorB07
set_option linter.unusedSimpArgs false
set_option linter.unusedVariables false
namespace Go.Rk
open Go Go.RowKit
set_option linter.unusedVariables false
/-- A printer's block. -/
def PrR (w : World) (k : Nat) : Prop := ∃ cs fr, w.heap[k]? = some (.cells cs ty_syntax_printer fr)
/-- What a printer leaves alone, wherever it lies. -/
structure PQ (n0 : Nat) (w w' : World) : Prop where
  os : w'.os = w.os
  tape : w'.tape = w.tape
  output : w'.output = w.output
  size : w.heap.size ≤ w'.heap.size
  block : ∀ k, k < w.heap.size → (k < n0 ∨ (¬ ByR w k ∧ ¬ PrR w k)) → w'.heap[k]? = w.heap[k]?
theorem PQ.refl (n0 : Nat) (w : World) : PQ n0 w w := ⟨rfl, rfl, rfl, Nat.le_refl _, fun _ _ _ => rfl⟩
theorem PQ.trans {n0 : Nat} {u v w : World} (h : PQ n0 u v) (k : PQ n0 v w) : PQ n0 u w :=
  ⟨k.os.trans h.os, k.tape.trans h.tape, k.output.trans h.output, Nat.le_trans h.size k.size, fun i hi hb => by
    have e := h.block i hi hb
    refine (k.block i (Nat.lt_of_lt_of_le hi h.size) (hb.imp id fun hb => ⟨fun hr => hb.1 ?_, fun hr => hb.2 ?_⟩)).trans e
    · obtain ⟨cs, fr, hr⟩ := hr; exact ⟨cs, fr, e.symm.trans hr⟩
    · obtain ⟨cs, fr, hr⟩ := hr; exact ⟨cs, fr, e.symm.trans hr⟩⟩
theorem PQ.of_g {n0 : Nat} {w w' : World} (h : G w w') : PQ n0 w w' := ⟨h.os, h.tape, h.output, h.size, fun k hk _ => h.block hk⟩
theorem PQ.of_pf {n0 b : Nat} {w w' : World} (h : PF n0 b w w') (hB : PrR w b) : PQ n0 w w' := ⟨h.os, h.tape, h.output, h.size, fun k hk hb => h.block k hk (hb.imp id fun hb => ⟨fun e => hb.2 (e ▸ hB), hb.1⟩)⟩
theorem PQ.g {w w' : World} (h : PQ w.heap.size w w') : G w w' := ⟨h.os, h.tape, h.output, h.size, fun k hk => h.block k hk (.inl hk)⟩
theorem pq_only {n0 : Nat} {w0 w w' : World} {j : Nat} (h : PQ n0 w0 w) (hg : w.grownBy w' (some j)) (hj : w0.heap.size ≤ j) : PQ n0 w0 w' :=
  ⟨hg.os.trans h.os, hg.tape.trans h.tape, hg.output.trans h.output, Nat.le_trans h.size hg.size, fun k hk hb => (hg.block k (Nat.lt_of_lt_of_le hk h.size) (by intro e; injection e with e; omega)).trans (h.block k hk hb)⟩
theorem Blk.pq {n0 j : Nat} {w w' : World} {e : TypeId} {l : List Value} (h : Blk w j e l) (g : PQ n0 w w') (he : Nat.beq e ty_uint8 = false) (he2 : Nat.beq e ty_syntax_printer = false) : Blk w' j e l := by
  refine (g.block j h.lt (.inr ⟨fun ⟨cs, fr, hr⟩ => ?_, fun ⟨cs, fr, hr⟩ => ?_⟩)).trans h
  · unfold Blk at h
    rw [h] at hr; injection hr with hr; injection hr with _ hr; subst hr; simp at he
  · unfold Blk at h
    rw [h] at hr; injection hr with hr; injection hr with _ hr; subst hr; simp at he2
theorem Kd.pq {n0 : Nat} {w w' : World} {D : Nat → Prop} {ks : List Nd} {v : Value} (h : Kd w D ks v) (g : PQ n0 w w') (hD : ∀ k, D k → k < n0) : Kd w' D ks v :=
  kd_frame h (fun _ h _ => h) fun k hk hlt => g.block k hlt (.inl (hD k hk))
theorem Prn.prr {n0 b : Nat} {l : List UInt8} {k : Nat} {w : World} (h : Prn n0 b l k w) : PrR w b := by
  obtain ⟨p, a, q, h1, _⟩ := h.bld
  exact ⟨_, _, h1.B⟩
theorem prn_new {n0 b : Nat} {w : World} (h : Blk w b ty_syntax_printer [.pointer none, .slice none 0 0, .int .i64 0]) (hb : n0 ≤ b) (hT : LaidP n0 w) : Prn n0 b [] 0 w :=
  ⟨⟨none, none, 0, ⟨h, hb, own_none _ _ _ _, (by intro e; cases e), .inl rfl⟩, fun _ => rfl⟩, hT⟩
theorem stmt_q {t : Nd} (hx : pstB t = true) (hok : okNd t) {p : Option Addr} {c : Nat} {D : Nat → Prop} {n0 b : Nat} {l : List UInt8} {w : World} (hk : Kd w D t.kids (.slice p t.kids.length c)) (hD : ∀ x, D x → x < n0) (hP : Prn n0 b l 0 w)
    (hlen : l.length + (pst t 0).length < 100000000) (hc : count t ≤ 1000000) : Ret PP fn_syntax_printer_stmt #[.pointer (some ⟨b, 0, none⟩), ndV t (.slice p t.kids.length c)] w fun r w' => r = .tuple #[] ∧ Prn n0 b (l ++ pst t 0) 0 w' ∧ PQ n0 w w' :=
  (print_stmt hx hok p c D n0 b l 0 w hk hD hP hlen (by omega)).mono fun _ _ h => ⟨h.1, h.2.1, PQ.of_pf h.2.2 hP.prr⟩
theorem write_q {n0 b : Nat} {l : List UInt8} {w : World} (ts : List (List UInt8)) {b' : Nat} (hP : Prn n0 b l 0 w) (hR : Blk w b' ty_string (ts.map Str)) (hb : b' ≠ b) (hlen : l.length + ts.flatten.length < 100000000) (hn : ts.all (fun s => !s.isEmpty) = true) (hts : ts.length ≤ 1000) :
    Ret PP fn_syntax_printer_write #[.pointer (some ⟨b, 0, none⟩), .slice (some ⟨b', 0, none⟩) ts.length ts.length] w fun r w' => r = .tuple #[] ∧ Prn n0 b (l ++ ts.flatten) 0 w' ∧ PQ n0 w w' :=
  (write_ok ts hP hR hb hlen hn hts).mono fun _ _ h => ⟨h.1, h.2.1, PQ.of_pf h.2.2 hP.prr⟩
def prX (l : List Nd) : List UInt8 := l.flatMap fun d => declX d ++ [10]
theorem prX_snoc (l : List Nd) {i : Nat} (h : i < l.length) : prX (l.take (i + 1)) = prX (l.take i) ++ (declX l[i] ++ [10]) := by
  rw [take_step h, prX, List.flatMap_append, prX]; simp
theorem prX_le (l : List Nd) (i : Nat) : (prX (l.take i)).length ≤ (prX l).length := by
  conv => rhs; rw [prX, ← List.take_append_drop i l, List.flatMap_append, List.length_append]
  exact Nat.le_add_right _ _
theorem valid_decl {t : Nd} (h : validB t = true) : t.kids.all declB = true := by
  rw [← rvalid_eq] at h
  cases h1 : (!decide (t.kind = 1) || !plainB t) || decide ((50 : Int) < (depthN t : Nat))
  · rw [h1] at h; exact h
  · rw [h1] at h; cases h
abbrev TabP (w : World) : Prop := Lib.TabIs PP w "internal/strconv.uint64pow10" .u64 Lib.pow10Tab
theorem TabP.grow {w w' : World} (h : TabP w) (g : G w w') : TabP w' := Lib.tabBelow_of_tabIs h w' g
theorem print_ok (t : Nd) (v : Value) (D : Nat → Prop) (w : World) (hL : Laid w) (hb3 : 4 ≤ w.heap.size) (hT : TabP w) (hk : Kd w D t.kids v) (hcn : count t ≤ 1000000) (hok : okNd t) (hlen : (printX t).length < 100000000) :
    Ret PP fn_syntax_Print #[ndV t v] w fun r w' => r = Str (printX t) ∧ G w w' := by
  have hTB : LaidP w.heap.size w := Lib.tabBelow_of_tabIs hT
  have g := PQ.refl w.heap.size w
  have hls := length_le_sum t.kids
  have hcq : count t = 1 + (t.kids.map count).sum := count_eq t
  replace hk := hk.lt
  have hk0 := hk
  obtain ⟨p, c, rfl, _, _⟩ := id hk
  have hD : ∀ x, (D x ∧ x < w.heap.size) → x < w.heap.size := fun x h => h.2
  generalize hDq : (fun b => D b ∧ b < w.heap.size) = D0 at hk0 hk
  replace hD : ∀ x, D0 x → x < w.heap.size := fun x h => by rw [← hDq] at h; exact hD x h
  refine ret_of_sc (m := 23) func_syntax_Print rfl rfl [(0, True, _)] (sub_cons rfl (sub_nil _)) ?_
  refine sc_seq fun K1 hK1 => ?_
  refine sc_text [1, 3] ?_
  refine sr_box rfl (ev_t rfl) rfl ?_
  intro b1 w1 N1
  have l1 := newge N1 g.size
  have g := g.trans (PQ.of_g (N1.g))
  have hk0 := hk0.grow (N1.g)
  try have hkid := hkid.grow (N1.g)
  try have hP := hP.grow (N1.g)
  have B1 := N1.blk
  refine sr_pu rfl (fun _ => rd_assign ev_c) ?_
  refine sr_sub [(1, _, _), (2, _, _)] (sub_cons rfl (sub_cons rfl (sub_nil _))) ?_
  refine sr_nil (hK1 _ _ ?_)
  refine sc_seq fun K2 hK2 => ?_
  refine sc_seq fun K3 hK3 => ?_
  refine sc_text [0, 1, 3] ?_
  refine sr_rd rfl (rd_loads agg_api_Node (ev_t rfl) rfl (fun _ => B1.row)) ?_
  refine sr_call rfl (rc_call go_syntax_Valid ev_f (args_cons (ev_t rfl) (args_nil)) rfl) (svalid_ok t _ D0 _ (hL.grow g.g) (by have := g.size; omega) hk0 hcn) ?_
  rintro v7 w7 ⟨rfl, g7⟩
  refine ⟨fun _ => g7, ?_⟩
  have g := g.trans (PQ.of_g (g7))
  replace B1 := B1.grow (g7)
  have hk0 := hk0.grow (g7)
  try have hkid := hkid.grow (g7)
  try have hP := hP.grow (g7)
  refine sr_pu rfl (fun _ => rd_not (ev_t rfl)) ?_
  refine sr_sub [(1, _, _), (2, _, _), (8, _, _)] (sub_cons rfl (sub_cons rfl (sub_cons rfl (sub_nil _)))) ?_
  refine sr_nil (hK3 _ _ ?_)
  refine sc_cond (ev_t rfl) (fun h1 => ?_) (fun h1 => ?_)
  · have e : printX t = [] := by unfold printX; simp only [Bool.not_eq_true'] at h1; rw [h1]; rfl
    refine sc_seq fun K4 hK4 => ?_
    refine sc_text [3] ?_
    refine sr_pu rfl (fun _ => rd_assign ev_c) ?_
    refine sr_sub [(1, _, _), (2, _, _)] (sub_cons rfl (sub_cons rfl (sub_nil _))) ?_
    refine sr_nil (hK4 _ _ ?_)
    refine sc_ret (t_ret1 rfl rfl ?_)
    exact ⟨by rw [e], g.g⟩
  have h1 : validB t = true := by simpa using h1
  have e : printX t = prX t.kids := by unfold printX; rw [h1]; rfl
  rw [e] at hlen
  have hds := List.all_eq_true.1 (valid_decl h1)
  refine sc_skip (hK2 _ _ ?_)
  refine sc_sub [(1, _, _), (2, _, _)] (sub_cons rfl (sub_cons rfl (sub_nil _))) ?_
  refine sc_seq fun K5 hK5 => ?_
  refine sc_text [1] ?_
  refine sr_alloc rfl ze_syntax_printer rfl ?_
  intro b3 w3 N3
  have x3_1 := N3.ne B1
  have l3 := newge N3 g.size
  have g := g.trans (PQ.of_g (N3.g))
  replace B1 := B1.grow (N3.g)
  have hk0 := hk0.grow (N3.g)
  try have hkid := hkid.grow (N3.g)
  try have hP := hP.grow (N3.g)
  have B3 := N3.blk
  have hP := prn_new (n0 := w.heap.size) B3 (by have := N3.ge (PQ.g ‹PQ w.heap.size w _›); omega) (hTB.on g.g)
  have hlt3 := N3.blk.lt
  refine sr_nil (hK5 _ _ ?_)
  refine sc_seq fun K6 hK6 => ?_
  refine sc_seq fun K7 hK7 => ?_
  refine sc_text [3, 0, 3, 3] ?_
  refine sr_pu rfl (fun _ => rd_field fo_api_Node_4 (ev_t rfl)) ?_
  refine sr_rd rfl (rd_load one_sl_api_Node (ev_t rfl) (fun _ => B1.at_ rfl)) ?_
  refine sr_pu rfl (fun _ => rd_len el_sl_api_Node (ev_t rfl)) ?_
  refine sr_pu rfl (fun _ => rd_move ev_c) ?_
  refine sr_sub [(2, _, _), (3, _, _), (10, _, _), (11, _, _), (12, _, _)] (sub_cons rfl (sub_cons rfl (sub_cons rfl (sub_cons rfl (sub_cons rfl (sub_nil _)))))) ?_
  refine sr_nil (hK7 _ _ ?_)
  refine sc_block ?_
  refine sc_loop2 (fun (i : Nat) u1 => (i ≤ t.kids.length ∧ Prn w.heap.size b3 (prX (t.kids.take i)) 0 u1 ∧ Kd u1 D0 t.kids (.slice p t.kids.length c)) ∧ PQ w.heap.size w3 u1) [(2, True, _), (3, True, _), (10, True, _), (11, True, _)] (fun (i : Nat) => [(12, True, .int .i64 i)]) (fun (i : Nat) => t.kids.length - i) (0) ⟨⟨Nat.zero_le _, hP, hk0⟩, PQ.refl _ _⟩ (sub_cons rfl (sub_cons rfl (sub_cons rfl (sub_cons rfl (sub_cons rfl (sub_nil _)))))) ?_
  rintro i u1 ⟨hI1, gl1⟩
  have g := g.trans gl1
  obtain ⟨hi, hP, hk0⟩ := hI1
  have hbn := hP.ge
  refine sc_seq fun K8 hK8 => ?_
  refine sc_text [3] ?_
  refine sr_pu rfl (fun _ => rd_lt (ev_t rfl) (ev_t rfl)) ?_
  refine sr_nil (hK8 _ _ ?_)
  refine sc_sub [(2, _, _), (3, _, _), (10, _, _), (11, _, _), (12, _, _), (13, _, _)] (sub_cons rfl (sub_cons rfl (sub_cons rfl (sub_cons rfl (sub_cons rfl (sub_cons rfl (sub_nil _))))))) ?_
  refine sc_seq fun K9 hK9 => ?_
  refine sc_cond (ev_t rfl) (fun h2 => ?_) (fun h2 => ?_)
  · replace h2 : i < t.kids.length := by simp only [decide_eq_true_eq] at h2; omega
    obtain ⟨_, _, hpe, _, hks⟩ := id hk0
    obtain ⟨b9, o9, rfl, hD9, xs, hR, hX⟩ := hks (by omega)
    injection hpe with hpe _ hce
    subst hpe hce
    obtain ⟨p9, c9, hcell, hkid⟩ := kd_at hR hX h2
    have hjs := prX_snoc t.kids h2
    have hjl := prX_le t.kids (i + 1)
    rw [hjs] at hjl
    have hcs := sum_le t.kids h2
    have hde := hds _ (List.getElem_mem h2)
    have hdp := dec_eq (decl_kind hde)
    have hpb : pstB t.kids[i] = true := by unfold pstB; rw [hde]; simp
    rw [hdp] at hjs hjl
    simp only [List.length_append, List.length_cons, List.length_nil, List.flatten_cons, List.flatten_nil, List.append_nil, tabsL, List.length_replicate] at hjl
    refine sc_skip (hK9 _ _ ?_)
    refine sc_sub [(2, _, _), (3, _, _), (10, _, _), (11, _, _), (12, _, _)] (sub_cons rfl (sub_cons rfl (sub_cons rfl (sub_cons rfl (sub_cons rfl (sub_nil _)))))) ?_
    refine sc_seq fun K10 hK10 => ?_
    refine sc_block ?_
    refine sc_seq fun K11 hK11 => ?_
    refine sc_text [3, 0, 1, 2] ?_
    refine sr_pu rfl (fun _ => rd_idx el_sl_api_Node (ev_t rfl) (ev_t rfl) (fun _ => by omega)) ?_
    refine sr_rd rfl (rd_loads agg_api_Node (ev_t rfl) rfl (fun _ => hcell)) ?_
    refine sr_alloc rfl ze_api_Node rfl ?_
    intro b5 w5 N5
    have l5 := newge N5 g.size
    try have l5_gl1 := newge N5 gl1.size
    have g := g.trans (PQ.of_g (N5.g))
    try have gl1 := gl1.trans (PQ.of_g (N5.g))
    have hk0 := hk0.grow (N5.g)
    try have hkid := hkid.grow (N5.g)
    try have hP := hP.grow (N5.g)
    have B5 := N5.blk
    refine sr_store_all rfl sz_api_Node (ev_t rfl) (ev_t rfl) rfl rfl B5 rfl rfl ?_
    intro wS1 hgS1 hzS1
    have C5 := B5
    clear B5
    intro B5
    have g := pq_only g hgS1 (by omega)
    first | replace gl1 := pq_only gl1 hgS1 (by omega) | clear gl1 | skip
    have hP := hP.keep hgS1 C5 rfl (by omega) (by omega)
    have hk0 := hk0.st hgS1 hD (by omega)
    have hkid := hkid.st hgS1 hD (by omega)
    refine sr_sub [(2, _, _), (3, _, _), (5, _, _), (10, _, _), (11, _, _), (12, _, _)] (sub_cons rfl (sub_cons rfl (sub_cons rfl (sub_cons rfl (sub_cons rfl (sub_cons rfl (sub_nil _))))))) ?_
    refine sr_nil (hK11 _ _ ?_)
    refine sc_seq fun K12 hK12 => ?_
    refine sc_text [0, 2] ?_
    refine sr_rd rfl (rd_loads agg_api_Node (ev_t rfl) rfl (fun _ => B5.row)) ?_
    refine sr_call rfl (rc_call go_syntax_printer_stmt ev_f (args_cons (ev_t rfl) (args_cons (ev_t rfl) (args_nil))) rfl) (stmt_q hpb (okNd_kid hok (List.getElem_mem h2)) hkid hD hP (by omega) (by omega)) ?_
    rintro v17 w17 ⟨rfl, hP, g17⟩
    refine ⟨fun h => absurd h (by decide), ?_⟩
    have g := g.trans g17
    try have gl1 := gl1.trans g17
    replace B5 := B5.pq g17 rfl rfl
    have hk0 := hk0.pq g17 hD
    try have hkid := hkid.pq g17 hD
    refine sr_sub [(2, _, _), (3, _, _), (10, _, _), (11, _, _), (12, _, _)] (sub_cons rfl (sub_cons rfl (sub_cons rfl (sub_cons rfl (sub_cons rfl (sub_nil _)))))) ?_
    refine sr_nil (hK12 _ _ ?_)
    refine sc_text [1, 2] ?_
    refine sr_buildSlice [_] rfl el_sl_string ze_string (parts_cons ev_c (parts_nil)) rfl rfl ?_
    intro b18 w18 N18
    have x18_5 := N18.ne B5
    have l18 := newge N18 g.size
    try have l18_gl1 := newge N18 gl1.size
    have g := g.trans (PQ.of_g (N18.g))
    try have gl1 := gl1.trans (PQ.of_g (N18.g))
    replace B5 := B5.grow (N18.g)
    have hk0 := hk0.grow (N18.g)
    try have hkid := hkid.grow (N18.g)
    try have hP := hP.grow (N18.g)
    have B18 := N18.blk
    refine sr_call rfl (rc_call go_syntax_printer_write ev_f (args_cons (ev_t rfl) (args_cons (ev_t rfl) (args_nil))) rfl) (write_q [[10]] hP B18 (by omega) (by first | omega | (simp only [List.length_append, List.length_cons, List.length_nil, List.flatten_cons, List.flatten_nil, List.append_nil, tabsL, List.length_replicate]; omega)) (by rfl) (Nat.le_of_ble_eq_true rfl)) ?_
    rintro v19 w19 ⟨rfl, hP, g19⟩
    refine ⟨fun h => absurd h (by decide), ?_⟩
    have g := g.trans g19
    try have gl1 := gl1.trans g19
    replace B5 := B5.pq g19 rfl rfl
    replace B18 := B18.pq g19 rfl rfl
    have hk0 := hk0.pq g19 hD
    try have hkid := hkid.pq g19 hD
    refine sr_sub [(2, _, _), (3, _, _), (10, _, _), (11, _, _), (12, _, _)] (sub_cons rfl (sub_cons rfl (sub_cons rfl (sub_cons rfl (sub_cons rfl (sub_nil _)))))) ?_
    refine sr_nil (hK10 _ _ ?_)
    refine sc_text [3, 3] ?_
    refine sr_pu rfl (fun _ => rd_add (ev_t rfl) ev_c (fun _ => by omega)) ?_
    refine sr_pu rfl (fun _ => rd_move (ev_t rfl)) ?_
    refine sr_sub [(12, _, _), (2, _, _), (3, _, _), (10, _, _), (11, _, _)] (sub_cons rfl (sub_cons rfl (sub_cons rfl (sub_cons rfl (sub_cons rfl (sub_nil _)))))) ?_
    refine sr_nil (fun a ha => ?_)
    refine ⟨i + 1, ha, ⟨⟨h2, ?_, hk0⟩, gl1⟩, by omega⟩
    rw [hjs]; simpa only [List.append_assoc, List.flatten_cons, List.flatten_nil, List.append_nil] using hP
  replace h2 : i = t.kids.length := by simp only [decide_eq_false_iff_not] at h2; omega
  rw [h2, List.take_length] at hP
  refine sc_exit rfl (hK6 _ _ ?_)
  refine sc_sub [(2, _, _), (3, _, _)] (sub_cons rfl (sub_cons rfl (sub_nil _))) ?_
  refine sc_seq fun K13 hK13 => ?_
  refine sc_text [3, 2, 3] ?_
  refine sr_pu rfl (fun _ => rd_field fo_syntax_printer_0 (ev_t rfl)) ?_
  refine sr_call rfl (rc_call go_strings_Builder_String ev_f (args_cons (ev_t rfl) (args_nil)) rfl) (prn_text hP) ?_
  rintro v22 w22 ⟨rfl, hb22⟩
  refine ⟨fun h => absurd h (by decide), ?_⟩
  refine sr_pu rfl (fun _ => rd_assign (ev_t rfl)) ?_
  refine sr_nil (hK13 _ _ ?_)
  refine sc_ret (t_ret1 rfl rfl ?_)
  exact ⟨by rw [e], Go.RowKit.Below.trans g.g hb22⟩
end Go.Rk
namespace Go.Rk
open Go Go.RowKit
/-- A tree comes back, its children's blocks all of D. -/
def RetD (D : Nat → Prop) (t : Nd) (r : Value) (w : World) : Prop := ∃ p c, r = ndV t (.slice p t.kids.length c) ∧ Kd w D t.kids (.slice p t.kids.length c)
theorem RetD.grow {D : Nat → Prop} {t : Nd} {r : Value} {w w' : World} (h : RetD D t r w) (g : G w w') : RetD D t r w' := by
  obtain ⟨p, c, e, k⟩ := h
  exact ⟨p, c, e, k.grow g⟩
theorem RetD.mono {D D' : Nat → Prop} {t : Nd} {r : Value} {w : World} (h : RetD D t r w) (hD : ∀ b, D b → D' b) : RetD D' t r w := by
  obtain ⟨p, c, e, k⟩ := h
  exact ⟨p, c, e, k.mono fun b hb _ => hD b hb⟩
@[reducible] def GE (n : Nat) : Nat → Prop := fun b => n ≤ b
theorem kd_one {w : World} {D : Nat → Prop} {t : Nd} {v : Value} {b : Nat} {e : TypeId} (hb : D b) (h : Blk w b e (ndCells t v)) (hk : Kd w D t.kids v) : Kd w D [t] (.slice (some ⟨b, 0, none⟩) 1 1) := kd_row hb h.row (krow_one hk) (Nat.le_refl _)
theorem OwnK.low {e : TypeId} {D : Nat → Prop} {base : Nat} {w : World} {ks : List Nd} {s : Value} (h : OwnK e D base w ks s) : OwnK e (fun b => D b ∧ b < w.heap.size) base w ks s := by
  have hlt := h.lt
  obtain ⟨xs, h1, h2, h3⟩ := h
  exact ⟨xs, h1, h2.lt.mono fun b hb _ => ⟨⟨hb.1.1, hb.2⟩, hb.1.2⟩, fun b hb => ⟨h3 b hb, hlt b hb⟩⟩
theorem OwnK.mono {e : TypeId} {D D' : Nat → Prop} {base : Nat} {w : World} {ks : List Nd} {s : Value} (h : OwnK e D base w ks s) (hD : ∀ b, D b → D' b) : OwnK e D' base w ks s := by
  obtain ⟨xs, h1, h2, h3⟩ := h
  exact ⟨xs, h1, h2.mono fun b hb _ => ⟨hD b hb.1, hb.2⟩, fun b hb => hD b (h3 b hb)⟩
end Go.Rk
namespace Go.Rk
open Go Go.RowKit
set_option linter.unusedVariables false
theorem sequal_ok : ∀ (a : Nd) (va : Value) (D : Nat → Prop) (b : Nd) (vb : Value) (D' : Nat → Prop) (w : World), Kd w D a.kids va → Kd w D' b.kids vb → count a ≤ 1000000 → Ret PP fn_syntax_Equal #[ndV a va, ndV b vb] w fun r w' => r = .bool (eqB a b) ∧ G w w' := by
  refine Nd.ind fun a ih va D b vb D' w hka hkb hcn => ?_
  obtain ⟨pa, ca, rfl, hcapa, hksa⟩ := hka
  have hka0 : Kd w D a.kids (.slice pa a.kids.length ca) := ⟨pa, ca, rfl, hcapa, hksa⟩
  obtain ⟨pb', cb, rfl, hcapb, hksb⟩ := hkb
  have hkb0 : Kd w D' b.kids (.slice pb' b.kids.length cb) := ⟨pb', cb, rfl, hcapb, hksb⟩
  have g := G.refl w
  have hln := kids_le a
  rw [eqB_eq]
  refine ret_of_sc (m := 61) func_syntax_Equal rfl rfl [(0, True, _), (1, True, _)] (sub_cons rfl (sub_cons rfl (sub_nil _))) ?_
  refine sc_seq fun K1 hK1 => ?_
  refine sc_text [1, 1, 3] ?_
  refine sr_box rfl (ev_t rfl) rfl ?_
  intro b2 w2 N2
  have l2 := N2.ge g
  have g := g.trans (N2.g)
  have B2 := N2.blk
  refine sr_box rfl (ev_t rfl) rfl ?_
  intro b3 w3 N3
  have x3_2 := N3.ne B2
  have l3 := N3.ge g
  have g := g.trans (N3.g)
  replace B2 := B2.grow (N3.g)
  have B3 := N3.blk
  refine sr_pu rfl (fun _ => rd_assign ev_c) ?_
  refine sr_sub [(2, _, _), (3, _, _), (4, _, _)] (sub_cons rfl (sub_cons rfl (sub_cons rfl (sub_nil _)))) ?_
  refine sr_nil (hK1 _ _ ?_)
  refine sc_seq fun K2 hK2 => ?_
  refine sc_seq fun K3 hK3 => ?_
  refine sc_text [3, 0, 3, 0, 3, 3, 3, 0, 3, 0, 3, 3, 3, 3, 0, 3, 3, 0, 3, 3, 3] ?_
  refine sr_pu rfl (fun _ => rd_field fo_api_Node_0 (ev_t rfl)) ?_
  refine sr_rd rfl (rd_load one_int (ev_t rfl) (fun _ => B2.at_ rfl)) ?_
  refine sr_pu rfl (fun _ => rd_field fo_api_Node_0 (ev_t rfl)) ?_
  refine sr_rd rfl (rd_load one_int (ev_t rfl) (fun _ => B3.at_ rfl)) ?_
  refine sr_pu rfl (fun _ => rd_ne (ev_t rfl) (ev_t rfl)) ?_
  refine sr_pu rfl (fun _ => rd_move (ev_t rfl)) ?_
  refine sr_pug rfl rfl rfl (fun _ => rd_field fo_api_Node_1 (ev_t rfl)) ?_
  refine sr_rdg rfl rfl rfl (rd_load one_string (ev_u rfl id) (fun _ => B2.at_ rfl)) ?_
  refine sr_pug rfl rfl rfl (fun _ => rd_field fo_api_Node_1 (ev_t rfl)) ?_
  refine sr_rdg rfl rfl rfl (rd_load one_string (ev_u rfl id) (fun _ => B3.at_ rfl)) ?_
  refine sr_pug rfl rfl rfl (fun _ => rd_sne (ev_u rfl id) (ev_u rfl id)) ?_
  refine sr_pu rfl (fun _ => rd_pick_or (ev_t rfl) (ev_u rfl id)) ?_
  refine sr_pu rfl (fun _ => rd_move (ev_t rfl)) ?_
  refine sr_pug rfl rfl rfl (fun _ => rd_field fo_api_Node_4 (ev_t rfl)) ?_
  refine sr_rdg rfl rfl rfl (rd_load one_sl_api_Node (ev_u rfl id) (fun _ => B2.at_ rfl)) ?_
  refine sr_pug rfl rfl rfl (fun _ => rd_len el_sl_api_Node (ev_u rfl id)) ?_
  refine sr_pug rfl rfl rfl (fun _ => rd_field fo_api_Node_4 (ev_t rfl)) ?_
  refine sr_rdg rfl rfl rfl (rd_load one_sl_api_Node (ev_u rfl id) (fun _ => B3.at_ rfl)) ?_
  refine sr_pug rfl rfl rfl (fun _ => rd_len el_sl_api_Node (ev_u rfl id)) ?_
  refine sr_pug rfl rfl rfl (fun _ => rd_ne (ev_u rfl id) (ev_u rfl id)) ?_
  refine sr_pu rfl (fun _ => rd_pick_or (ev_t rfl) (ev_u rfl id)) ?_
  refine sr_sub [(2, _, _), (3, _, _), (4, _, _), (26, _, _)] (sub_cons rfl (sub_cons rfl (sub_cons rfl (sub_cons rfl (sub_nil _))))) ?_
  refine sr_nil (hK3 _ _ ?_)
  refine sc_cond (ev_t rfl) (fun h1 => ?_) (fun h1 => ?_)
  · replace h1 : ((!decide (a.kind = b.kind) || !decide (a.text = b.text)) || !lenQ a b) = true := h1
    have he : eqLoc a b = false := by have := eqLoc_not a b; rw [h1] at this; simpa using this
    refine sc_seq fun K4 hK4 => ?_
    refine sc_text [3] ?_
    refine sr_pu rfl (fun _ => rd_assign ev_c) ?_
    refine sr_sub [(2, _, _), (3, _, _), (4, _, _)] (sub_cons rfl (sub_cons rfl (sub_cons rfl (sub_nil _)))) ?_
    refine sr_nil (hK4 _ _ ?_)
    refine sc_ret (t_ret1 rfl rfl ?_)
    rw [he]; exact ⟨rfl, g⟩
  replace h1 : ((!decide (a.kind = b.kind) || !decide (a.text = b.text)) || !lenQ a b) = false := h1
  have hl : a.kids.length = b.kids.length := by
    have := (Bool.or_eq_false_iff.1 h1).2
    exact lenQ_iff.1 (by simpa using this)
  refine sc_skip (hK2 _ _ ?_)
  refine sc_sub [(2, _, _), (3, _, _), (4, _, _)] (sub_cons rfl (sub_cons rfl (sub_cons rfl (sub_nil _)))) ?_
  refine sc_seq fun K5 hK5 => ?_
  refine sc_seq fun K6 hK6 => ?_
  refine sc_text [3, 0, 3, 3, 3, 0, 3, 3, 3, 3, 0, 3, 0, 3, 3] ?_
  refine sr_pu rfl (fun _ => rd_field fo_api_Node_0 (ev_t rfl)) ?_
  refine sr_rd rfl (rd_load one_int (ev_t rfl) (fun _ => B2.at_ rfl)) ?_
  refine sr_pu rfl (fun _ => rd_eq (ev_t rfl) ev_c) ?_
  refine sr_pu rfl (fun _ => rd_move (ev_t rfl)) ?_
  refine sr_pug rfl rfl rfl (fun _ => rd_field fo_api_Node_0 (ev_t rfl)) ?_
  refine sr_rdg rfl rfl rfl (rd_load one_int (ev_u rfl id) (fun _ => B2.at_ rfl)) ?_
  refine sr_pug rfl rfl rfl (fun _ => rd_eq (ev_u rfl id) ev_c) ?_
  refine sr_pu rfl (fun _ => rd_pick_or (ev_t rfl) (ev_u rfl id)) ?_
  refine sr_pu rfl (fun _ => rd_move (ev_t rfl)) ?_
  refine sr_pug rfl rfl rfl (fun _ => rd_field fo_api_Node_2 (ev_t rfl)) ?_
  refine sr_rdg rfl rfl rfl (rd_load one_int (ev_u rfl id) (fun _ => B2.at_ rfl)) ?_
  refine sr_pug rfl rfl rfl (fun _ => rd_field fo_api_Node_2 (ev_t rfl)) ?_
  refine sr_rdg rfl rfl rfl (rd_load one_int (ev_u rfl id) (fun _ => B3.at_ rfl)) ?_
  refine sr_pug rfl rfl rfl (fun _ => rd_ne (ev_u rfl id) (ev_u rfl id)) ?_
  refine sr_pu rfl (fun _ => rd_pick_and (ev_t rfl) (ev_u rfl id)) ?_
  refine sr_sub [(2, _, _), (3, _, _), (4, _, _), (41, _, _)] (sub_cons rfl (sub_cons rfl (sub_cons rfl (sub_cons rfl (sub_nil _))))) ?_
  refine sr_nil (hK6 _ _ ?_)
  refine sc_cond (ev_t rfl) (fun h2 => ?_) (fun h2 => ?_)
  · replace h2 : (countsB a && !decide (a.num = b.num)) = true := h2
    have he : eqLoc a b = false := by have := eqLoc_not a b; rw [h2] at this; simpa using this
    refine sc_seq fun K7 hK7 => ?_
    refine sc_text [3] ?_
    refine sr_pu rfl (fun _ => rd_assign ev_c) ?_
    refine sr_sub [(2, _, _), (3, _, _), (4, _, _)] (sub_cons rfl (sub_cons rfl (sub_cons rfl (sub_nil _)))) ?_
    refine sr_nil (hK7 _ _ ?_)
    refine sc_ret (t_ret1 rfl rfl ?_)
    rw [he]; exact ⟨rfl, g⟩
  replace h2 : (countsB a && !decide (a.num = b.num)) = false := h2
  have he : eqLoc a b = true := by have := eqLoc_not a b; rw [h1, h2] at this; simpa using this
  refine sc_skip (hK5 _ _ ?_)
  refine sc_sub [(2, _, _), (3, _, _), (4, _, _)] (sub_cons rfl (sub_cons rfl (sub_cons rfl (sub_nil _)))) ?_
  refine sc_seq fun K8 hK8 => ?_
  refine sc_seq fun K9 hK9 => ?_
  refine sc_text [3, 0, 3, 3] ?_
  refine sr_pu rfl (fun _ => rd_field fo_api_Node_4 (ev_t rfl)) ?_
  refine sr_rd rfl (rd_load one_sl_api_Node (ev_t rfl) (fun _ => B2.at_ rfl)) ?_
  refine sr_pu rfl (fun _ => rd_len el_sl_api_Node (ev_t rfl)) ?_
  refine sr_pu rfl (fun _ => rd_move ev_c) ?_
  refine sr_sub [(2, _, _), (3, _, _), (4, _, _), (44, _, _), (45, _, _)] (sub_cons rfl (sub_cons rfl (sub_cons rfl (sub_cons rfl (sub_cons rfl (sub_nil _)))))) ?_
  refine sr_nil (hK9 _ _ ?_)
  refine sc_block ?_
  refine sc_loop2 (fun (i : Nat) u1 => (i ≤ a.kids.length ∧ ∀ j, j < i → eqB (kidAt a j) (kidAt b j) = true) ∧ G w3 u1) [(2, True, _), (3, True, _), (44, True, _)] (fun (i : Nat) => [(45, True, .int .i64 i)]) (fun (i : Nat) => a.kids.length - i) (0) ⟨⟨Nat.zero_le _, fun j hj => absurd hj (Nat.not_lt_zero j)⟩, G.refl _⟩ (sub_cons rfl (sub_cons rfl (sub_cons rfl (sub_cons rfl (sub_nil _))))) ?_
  rintro i u1 ⟨hI1, gl1⟩
  have g := g.trans gl1
  replace B2 := B2.grow (gl1)
  replace B3 := B3.grow (gl1)
  refine sc_seq fun K10 hK10 => ?_
  refine sc_text [3] ?_
  refine sr_pu rfl (fun _ => rd_lt (ev_t rfl) (ev_t rfl)) ?_
  refine sr_nil (hK10 _ _ ?_)
  refine sc_sub [(2, _, _), (3, _, _), (44, _, _), (45, _, _), (46, _, _)] (sub_cons rfl (sub_cons rfl (sub_cons rfl (sub_cons rfl (sub_cons rfl (sub_nil _)))))) ?_
  refine sc_seq fun K11 hK11 => ?_
  refine sc_cond (ev_t rfl) (fun h3 => ?_) (fun h3 => ?_)
  · replace h3 : i < a.kids.length := by simp only [decide_eq_true_eq] at h3; omega
    obtain ⟨hpa, p1, c1, hcell1, hkid1⟩ := kd_opt hka0 h3
    obtain ⟨hpb, p2, c2, hcell2, hkid2⟩ := kd_opt hkb0 (i := i) (by omega)
    have hck := count_kidAt h3
    refine sc_skip (hK11 _ _ ?_)
    refine sc_sub [(2, _, _), (3, _, _), (44, _, _), (45, _, _)] (sub_cons rfl (sub_cons rfl (sub_cons rfl (sub_cons rfl (sub_nil _))))) ?_
    refine sc_seq fun K12 hK12 => ?_
    refine sc_block ?_
    refine sc_seq fun K13 hK13 => ?_
    refine sc_text [3, 3] ?_
    refine sr_pu rfl (fun _ => rd_move (ev_t rfl)) ?_
    refine sr_pu rfl (fun _ => rd_assign (ev_t rfl)) ?_
    refine sr_sub [(2, _, _), (3, _, _), (5, _, _), (44, _, _), (45, _, _)] (sub_cons rfl (sub_cons rfl (sub_cons rfl (sub_cons rfl (sub_cons rfl (sub_nil _)))))) ?_
    refine sr_nil (hK13 _ _ ?_)
    refine sc_seq fun K14 hK14 => ?_
    refine sc_draw [3, 0, 3, 3, 0, 3, 0, 3, 3, 0, 1, 3] [true, true, true, true, true, true, true, true, true, true, true, true] [0, 1, 0, 7, 15, 0, 32, 0, 224, 480, 1023, 2047] mix (by kernel_rfl) ?_
    have g := g.trans (G.drew _)
    try have gl1 := gl1.trans (G.drew _)
    replace B2 := B2.grow (G.drew _)
    replace B3 := B3.grow (G.drew _)
    refine sr_pu rfl (fun _ => rd_field fo_api_Node_4 (ev_t rfl)) ?_
    refine sr_rd rfl (rd_load one_sl_api_Node (ev_t rfl) (fun _ => B2.at_ rfl)) ?_
    refine sr_pu rfl (fun _ => rd_move (ev_t rfl)) ?_
    refine sr_pu rfl (fun _ => rd_idxq el_sl_api_Node (ev_t rfl) (ev_t rfl) (fun _ => by omega) (fun _ => hpa)) ?_
    refine sr_rd rfl (rd_loads agg_api_Node (ev_t rfl) rfl (fun _ => hcell1.grow g)) ?_
    refine sr_pu rfl (fun _ => rd_field fo_api_Node_4 (ev_t rfl)) ?_
    refine sr_rd rfl (rd_load one_sl_api_Node (ev_t rfl) (fun _ => B3.at_ rfl)) ?_
    refine sr_pu rfl (fun _ => rd_move (ev_t rfl)) ?_
    refine sr_pu rfl (fun _ => rd_idxq el_sl_api_Node (ev_t rfl) (ev_t rfl) (fun _ => by omega) (fun _ => hpb)) ?_
    refine sr_rd rfl (rd_loads agg_api_Node (ev_t rfl) rfl (fun _ => hcell2.grow g)) ?_
    refine sr_pure rfl (rc_call go_syntax_Equal ev_f (args_cons (ev_t rfl) (args_cons (ev_t rfl) (args_nil))) rfl) (ih _ (kidAt_eq h3 ▸ List.getElem_mem h3) _ D _ _ D' _ (hkid1.grow g) (hkid2.grow g) (by omega)) (fun w58 g58 => ?_)
    have g := g.trans (g58)
    try have gl1 := gl1.trans (g58)
    replace B2 := B2.grow (g58)
    replace B3 := B3.grow (g58)
    refine sr_pu rfl (fun _ => rd_not (ev_t rfl)) ?_
    refine sr_sub [(2, _, _), (3, _, _), (44, _, _), (45, _, _), (59, _, _)] (sub_cons rfl (sub_cons rfl (sub_cons rfl (sub_cons rfl (sub_cons rfl (sub_nil _)))))) ?_
    refine sr_nil (hK14 _ _ ?_)
    refine sc_cond (ev_t rfl) (fun h4 => ?_) (fun h4 => ?_)
    · (try simp only [bsimp] at h4)
      refine sc_seq fun K15 hK15 => ?_
      refine sc_text [3] ?_
      refine sr_pu rfl (fun _ => rd_assign ev_c) ?_
      refine sr_sub [(2, _, _), (3, _, _), (4, _, _), (44, _, _), (45, _, _)] (sub_cons rfl (sub_cons rfl (sub_cons rfl (sub_cons rfl (sub_cons rfl (sub_nil _)))))) ?_
      refine sr_nil (hK15 _ _ ?_)
      refine sc_ret (t_ret1 rfl rfl ?_)
      refine ⟨congrArg Value.bool ?_, g⟩
      rw [he, Bool.true_and, eq_comm, List.all_eq_false]
      exact ⟨i, List.mem_range.2 h3, by simpa using h4⟩
    (try simp only [bsimp] at h4)
    refine sc_skip (hK12 _ _ ?_)
    refine sc_sub [(2, _, _), (3, _, _), (44, _, _), (45, _, _)] (sub_cons rfl (sub_cons rfl (sub_cons rfl (sub_cons rfl (sub_nil _))))) ?_
    refine sc_text [3, 3] ?_
    refine sr_pu rfl (fun _ => rd_add (ev_t rfl) ev_c (fun _ => by omega)) ?_
    refine sr_pu rfl (fun _ => rd_move (ev_t rfl)) ?_
    refine sr_sub [(45, _, _), (2, _, _), (3, _, _), (44, _, _)] (sub_cons rfl (sub_cons rfl (sub_cons rfl (sub_cons rfl (sub_nil _))))) ?_
    refine sr_nil (fun a ha => ?_)
    refine ⟨i + 1, ha, ⟨⟨h3, fun j hj => ?_⟩, gl1⟩, by omega⟩
    by_cases e : j = i
    · subst e; simpa using h4
    · exact hI1.2 j (by omega)
  (try simp only [bsimp] at h3)
  refine sc_exit rfl (hK8 _ _ ?_)
  refine sc_sub [] (sub_nil _) ?_
  refine sc_seq fun K16 hK16 => ?_
  refine sc_text [3] ?_
  refine sr_pu rfl (fun _ => rd_assign ev_c) ?_
  refine sr_nil (hK16 _ _ ?_)
  refine sc_ret (t_ret1 rfl rfl ?_)
  refine ⟨congrArg Value.bool ?_, g⟩
  rw [he, Bool.true_and, eq_comm, List.all_eq_true]
  intro j hj
  exact hI1.2 j (by have := List.mem_range.1 hj; simp only [decide_eq_false_iff_not] at h3; omega)
theorem sstrip_ok : ∀ (t : Nd) (v : Value) (D : Nat → Prop) (w : World), Kd w D t.kids v → t.kids.length ≤ 1000000 → count t ≤ 1000000 → Ret PP fn_syntax_Strip #[ndV t v] w fun r w' => RetNd (stripT t) w.heap.size r w' ∧ G w w' := by
  refine Nd.ind fun t ih v D w hk hlen hc => ?_
  obtain ⟨p, c, rfl, hcap, hks⟩ := hk
  have g := G.refl w
  refine ret_of_sc (m := 38) func_syntax_Strip rfl rfl [(0, True, _)] (sub_cons rfl (sub_nil _)) ?_
  refine sc_seq fun K1 hK1 => ?_
  refine sc_text [1, 1] ?_
  refine sr_box rfl (ev_t rfl) rfl ?_
  intro b1 w1 N1
  have l1 := N1.ge g
  have g := g.trans (N1.g)
  try have hO := hO.grow (N1.g)
  have B1 := N1.blk
  refine sr_alloc rfl ze_api_Node rfl ?_
  intro b2 w2 N2
  have x2_1 := N2.ne B1
  have l2 := N2.ge g
  have g := g.trans (N2.g)
  replace B1 := B1.grow (N2.g)
  try have hO := hO.grow (N2.g)
  have B2 := N2.blk
  refine sr_sub [(1, _, _), (2, _, _)] (sub_cons rfl (sub_cons rfl (sub_nil _))) ?_
  refine sr_nil (hK1 _ _ ?_)
  refine sc_seq fun K2 hK2 => ?_
  refine sc_text [3, 0, 3, 0, 3, 1, 2] ?_
  refine sr_pu rfl (fun _ => rd_field fo_api_Node_0 (ev_t rfl)) ?_
  refine sr_rd rfl (rd_load one_int (ev_t rfl) (fun _ => B1.at_ rfl)) ?_
  refine sr_pu rfl (fun _ => rd_field fo_api_Node_1 (ev_t rfl)) ?_
  refine sr_rd rfl (rd_load one_string (ev_t rfl) (fun _ => B1.at_ rfl)) ?_
  refine sr_pu rfl (fun _ => rd_build [_, _, _, _, _, _, _, _, _] ze_api_Node rfl pl_api_Node (parts_cons (ev_t rfl) (parts_cons (ev_t rfl) (parts_nil))) rfl) ?_
  refine sr_alloc rfl ze_api_Node rfl ?_
  intro b3 w3 N3
  have x3_1 := N3.ne B1
  have x3_2 := N3.ne B2
  have l3 := N3.ge g
  have g := g.trans (N3.g)
  replace B1 := B1.grow (N3.g)
  replace B2 := B2.grow (N3.g)
  try have hO := hO.grow (N3.g)
  have B3 := N3.blk
  refine sr_store_all rfl sz_api_Node (ev_t rfl) (ev_t rfl) rfl rfl B3 rfl rfl ?_
  intro wS1 hgS1 hzS1
  clear B3
  intro B3
  replace B1 := B1.keep hgS1 (by intro h; injection h with h; first | exact x3_1 h.symm | exact x1_3 h | omega)
  replace B2 := B2.keep hgS1 (by intro h; injection h with h; first | exact x3_2 h.symm | exact x2_3 h | omega)
  have g := g_only g hgS1 (by intro k hk; injection hk with hk; omega)
  refine sr_sub [(1, _, _), (2, _, _), (3, _, _)] (sub_cons rfl (sub_cons rfl (sub_cons rfl (sub_nil _)))) ?_
  refine sr_nil (hK2 _ _ ?_)
  refine sc_seq fun K3 hK3 => ?_
  refine sc_seq fun K4 hK4 => ?_
  refine sc_text [3, 0, 3, 3, 3, 0, 3, 3] ?_
  refine sr_pu rfl (fun _ => rd_field fo_api_Node_0 (ev_t rfl)) ?_
  refine sr_rd rfl (rd_load one_int (ev_t rfl) (fun _ => B1.at_ rfl)) ?_
  refine sr_pu rfl (fun _ => rd_eq (ev_t rfl) ev_c) ?_
  refine sr_pu rfl (fun _ => rd_move (ev_t rfl)) ?_
  refine sr_pug rfl rfl rfl (fun _ => rd_field fo_api_Node_0 (ev_t rfl)) ?_
  refine sr_rdg rfl rfl rfl (rd_load one_int (ev_u rfl id) (fun _ => B1.at_ rfl)) ?_
  refine sr_pug rfl rfl rfl (fun _ => rd_eq (ev_u rfl id) ev_c) ?_
  refine sr_pu rfl (fun _ => rd_pick_or (ev_t rfl) (ev_u rfl id)) ?_
  refine sr_sub [(1, _, _), (2, _, _), (3, _, _), (18, _, _)] (sub_cons rfl (sub_cons rfl (sub_cons rfl (sub_cons rfl (sub_nil _))))) ?_
  refine sr_nil (hK4 _ _ ?_)
  refine sc_cond (ev_t rfl) (fun h1 => ?_) (fun h1 => ?_)
  · replace h1 : countsB t = true := h1
    refine sc_text [3, 0, 3, 2] ?_
    refine sr_pu rfl (fun _ => rd_field fo_api_Node_2 (ev_t rfl)) ?_
    refine sr_rd rfl (rd_load one_int (ev_t rfl) (fun _ => B1.at_ rfl)) ?_
    refine sr_pu rfl (fun _ => rd_field fo_api_Node_2 (ev_t rfl)) ?_
    refine sr_store_one rfl sz_int (ev_t rfl) (ev_t rfl) rfl B3 rfl rfl ?_
    intro wS2 hgS2 hzS2
    clear B3
    intro B3
    replace B1 := B1.keep hgS2 (by intro h; injection h with h; first | exact x3_1 h.symm | exact x1_3 h | omega)
    replace B2 := B2.keep hgS2 (by intro h; injection h with h; first | exact x3_2 h.symm | exact x2_3 h | omega)
    have g := g_only g hgS2 (by intro k hk; injection hk with hk; omega)
    refine sr_sub [(1, _, _), (2, _, _), (3, _, _)] (sub_cons rfl (sub_cons rfl (sub_cons rfl (sub_nil _)))) ?_
    refine sr_nil (hK3 _ _ ?_)
    refine sc_seq fun K5 hK5 => ?_
    refine sc_seq fun K6 hK6 => ?_
    refine sc_text [3, 0, 3, 3] ?_
    replace B3 : Blk wS2 b3 ty_api_Node (ndCells (stripT t) (.slice none 0 0)) := by
      have h := B3
      rw [strip_cells, numS, h1]; exact h
    refine sr_pu rfl (fun _ => rd_field fo_api_Node_4 (ev_t rfl)) ?_
    refine sr_rd rfl (rd_load one_sl_api_Node (ev_t rfl) (fun _ => B1.at_ rfl)) ?_
    refine sr_pu rfl (fun _ => rd_len el_sl_api_Node (ev_t rfl)) ?_
    refine sr_pu rfl (fun _ => rd_move ev_c) ?_
    refine sr_sub [(2, _, _), (3, _, _), (23, _, _), (24, _, _), (25, _, _)] (sub_cons rfl (sub_cons rfl (sub_cons rfl (sub_cons rfl (sub_cons rfl (sub_nil _)))))) ?_
    refine sr_nil (hK6 _ _ ?_)
    refine sc_block ?_
    refine sc_loop3 (fun (i : Nat) u1 => (i ≤ t.kids.length ∧ ∃ s, Blk u1 b3 ty_api_Node (ndCells (stripT t) s) ∧ OwnK ty_api_Node (Dx w.heap.size [b1, b2, b3]) w.heap.size u1 ((t.kids.take i).map stripT) s) ∧ G w u1) _ [(2, True, _), (3, True, _), (23, True, _), (24, True, _)] (fun (i : Nat) => [(25, True, .int .i64 i)]) (fun (i : Nat) => t.kids.length - i) (0) ⟨⟨Nat.zero_le _, _, B3, ownK_nil _ _ _ _⟩, g⟩ (andE_mk (blkE B1) (andE_mk (blkE B2) (nilE_mk _))) (sub_cons rfl (sub_cons rfl (sub_cons rfl (sub_cons rfl (sub_cons rfl (sub_nil _)))))) ?_
    clear B1 B2 B3
    rintro i u1 ⟨hI1, gl1⟩ ⟨B1, B2, _⟩
    replace B1 : Blk _ _ _ _ := B1
    replace B2 : Blk _ _ _ _ := B2
    have g := gl1
    obtain ⟨hi, s, B3, hO⟩ := hI1
    obtain ⟨sa, sc, rfl⟩ := hO.slice
    refine sc_seq fun K7 hK7 => ?_
    refine sc_text [3] ?_
    refine sr_pu rfl (fun _ => rd_lt (ev_t rfl) (ev_t rfl)) ?_
    refine sr_nil (hK7 _ _ ?_)
    refine sc_sub [(2, _, _), (3, _, _), (23, _, _), (24, _, _), (25, _, _), (26, _, _)] (sub_cons rfl (sub_cons rfl (sub_cons rfl (sub_cons rfl (sub_cons rfl (sub_cons rfl (sub_nil _))))))) ?_
    refine sc_seq fun K8 hK8 => ?_
    refine sc_cond (ev_t rfl) (fun h2 => ?_) (fun h2 => ?_)
    · replace h2 : i < t.kids.length := by simp only [decide_eq_true_eq] at h2; omega
      obtain ⟨b, o, rfl, hD, xs, hR, hX⟩ := hks (by omega)
      obtain ⟨p', c', hcell, hkid⟩ := kd_at hR hX h2
      have hck := count_kid h2
      have hkl := kids_le t.kids[i]
      have hu := g.size
      have hO := hO.low
      refine sc_skip (hK8 _ _ ?_)
      refine sc_sub [(2, _, _), (3, _, _), (23, _, _), (24, _, _), (25, _, _)] (sub_cons rfl (sub_cons rfl (sub_cons rfl (sub_cons rfl (sub_cons rfl (sub_nil _)))))) ?_
      refine sc_seq fun K9 hK9 => ?_
      refine sc_block ?_
      refine sc_seq fun K10 hK10 => ?_
      refine sc_text [3, 0, 1, 2] ?_
      refine sr_pu rfl (fun _ => rd_idx el_sl_api_Node (ev_t rfl) (ev_t rfl) (fun _ => by omega)) ?_
      refine sr_rd rfl (rd_loads agg_api_Node (ev_t rfl) rfl (fun _ => hcell.grow g)) ?_
      refine sr_alloc rfl ze_api_Node rfl ?_
      intro b5 w5 N5
      have x5_1 := N5.ne B1
      have x5_2 := N5.ne B2
      have x5_3 := N5.ne B3
      have l5 := N5.ge g
      have g := g.trans (N5.g)
      replace B1 := B1.grow (N5.g)
      replace B2 := B2.grow (N5.g)
      replace B3 := B3.grow (N5.g)
      try have hO := hO.grow (N5.g)
      have B5 := N5.blk
      refine sr_store_all rfl sz_api_Node (ev_t rfl) (ev_t rfl) rfl rfl B5 rfl rfl ?_
      intro wS3 hgS3 hzS3
      clear B5
      intro B5
      replace B1 := B1.keep hgS3 (by intro h; injection h with h; first | exact x5_1 h.symm | exact x1_5 h | omega)
      replace B2 := B2.keep hgS3 (by intro h; injection h with h; first | exact x5_2 h.symm | exact x2_5 h | omega)
      replace B3 := B3.keep hgS3 (by intro h; injection h with h; first | exact x5_3 h.symm | exact x3_5 h | omega)
      have g := g_only g hgS3 (by intro k hk; injection hk with hk; omega)
      have hO := (hO.keep hgS3 (fun h => by have := N5.ge (G.refl _); have := h.2; omega)).mono fun b h => h.1
      refine sr_sub [(2, _, _), (3, _, _), (5, _, _), (23, _, _), (24, _, _), (25, _, _)] (sub_cons rfl (sub_cons rfl (sub_cons rfl (sub_cons rfl (sub_cons rfl (sub_cons rfl (sub_nil _))))))) ?_
      refine sr_nil (hK10 _ _ ?_)
      refine sc_draw [3, 0, 0, 1, 1, 2, 3, 2] [true, true, true, true, true, true, true, true] [0, 1, 0, 4, 12, 31, 63, 127] mix (by kernel_rfl) ?_
      have g := g.trans (G.drew _)
      replace B1 := B1.grow (G.drew _)
      replace B2 := B2.grow (G.drew _)
      replace B3 := B3.grow (G.drew _)
      replace B5 := B5.grow (G.drew _)
      try have hO := hO.grow (G.drew _)
      have hB1lt := B1.lt
      have hB2lt := B2.lt
      have hB3lt := B3.lt
      have hOlt := hO.lt
      have hdz : wS3.drew.drew.heap.size = wS3.drew.heap.size := rfl
      refine sr_pu rfl (fun _ => rd_field fo_api_Node_4 (ev_t rfl)) ?_
      refine sr_rd rfl (rd_load one_sl_api_Node (ev_t rfl) (fun _ => B3.at_ rfl)) ?_
      refine sr_rd rfl (rd_loads agg_api_Node (ev_t rfl) rfl (fun _ => B5.row)) ?_
      refine sr_call rfl (rc_call go_syntax_Strip ev_f (args_cons (ev_t rfl) (args_nil)) rfl) (ih _ (List.getElem_mem h2) _ _ _ (hkid.grow g) (by omega) (by omega)) ?_
      rintro v32 w32 ⟨⟨p2, c2, rfl, hk2⟩, g32⟩
      refine ⟨fun _ => g32, ?_⟩
      have g := g.trans g32
      replace B1 := B1.grow (g32)
      replace B2 := B2.grow (g32)
      replace B3 := B3.grow (g32)
      replace B5 := B5.grow (g32)
      try have hO := hO.grow (g32)
      refine sr_buildSlice [_, _, _, _, _, _, _, _, _] rfl el_sl_api_Node ze_api_Node (parts_cons (ev_t rfl) (parts_nil)) rfl rfl ?_
      intro b33 w33 N33
      have x33_1 := N33.ne B1
      have x33_2 := N33.ne B2
      have x33_3 := N33.ne B3
      have x33_5 := N33.ne B5
      have l33 := N33.ge g
      have g := g.trans (N33.g)
      replace B1 := B1.grow (N33.g)
      replace B2 := B2.grow (N33.g)
      replace B3 := B3.grow (N33.g)
      replace B5 := B5.grow (N33.g)
      try have hO := hO.grow (N33.g)
      have B33 := N33.blk
      have hk2 := hk2.grow N33.g
      have hOo := hO
      refine sr_appendK rfl el_sl_api_Node ze_api_Node rfl (ev_t rfl) hO (ev_t rfl) rfl B33.row (krow_one (hk2.mono fun k hk _ => ⟨⟨by have hk : _ ≤ k := hk; omega, by have hk : _ ≤ k := hk; simp; omega⟩, fun he => by have := hOlt k he.symm; have hk : _ ≤ k := hk; omega⟩)) (by simp; omega) (by have := g.size; omega) ⟨by have := g.size; omega, by have q1 := B1.lt; have q2 := B2.lt; have q3 := B3.lt; simp; omega⟩ ?_
      intro a34 c34 w34 hO hg34
      replace B1 := B1.keep hg34 (hOo.ne (by simp [Dx]))
      replace B2 := B2.keep hg34 (hOo.ne (by simp [Dx]))
      replace B3 := B3.keep hg34 (hOo.ne (by simp [Dx]))
      have g := g_only g hg34 (fun k hk => hOo.ge k hk)
      refine sr_pu rfl (fun _ => rd_field fo_api_Node_4 (ev_t rfl)) ?_
      refine sr_store_one rfl sz_sl_api_Node (ev_t rfl) (ev_t rfl) rfl B3 rfl rfl ?_
      intro wS4 hgS4 hzS4
      clear B3
      intro B3
      replace B1 := B1.keep hgS4 (by intro h; injection h with h; first | exact x3_1 h.symm | exact x1_3 h | omega)
      replace B2 := B2.keep hgS4 (by intro h; injection h with h; first | exact x3_2 h.symm | exact x2_3 h | omega)
      have g := g_only g hgS4 (by intro k hk; injection hk with hk; omega)
      have hO := hO.keep hgS4 (by simp [Dx])
      refine sr_sub [(2, _, _), (3, _, _), (23, _, _), (24, _, _), (25, _, _)] (sub_cons rfl (sub_cons rfl (sub_cons rfl (sub_cons rfl (sub_cons rfl (sub_nil _)))))) ?_
      refine sr_nil (hK9 _ _ ?_)
      refine sc_text [3, 3] ?_
      refine sr_pu rfl (fun _ => rd_add (ev_t rfl) ev_c (fun _ => by omega)) ?_
      refine sr_pu rfl (fun _ => rd_move (ev_t rfl)) ?_
      refine sr_sub [(25, _, _), (2, _, _), (3, _, _), (23, _, _), (24, _, _)] (sub_cons rfl (sub_cons rfl (sub_cons rfl (sub_cons rfl (sub_cons rfl (sub_nil _)))))) ?_
      refine sr_nil (fun a ha => ?_)
      exact ⟨i + 1, ha, ⟨⟨h2, _, B3, by rw [take_step h2, List.map_append]; exact hO⟩, g⟩, (andE_mk (blkE B1) (andE_mk (blkE B2) (nilE_mk _))), by omega⟩
    replace h2 : i = t.kids.length := by simp only [decide_eq_false_iff_not] at h2; omega
    subst h2
    rw [List.take_length] at hO B3
    refine sc_exit rfl (hK5 _ _ ?_)
    refine sc_sub [(2, _, _), (3, _, _)] (sub_cons rfl (sub_cons rfl (sub_nil _))) ?_
    refine sc_seq fun K11 hK11 => ?_
    refine sc_text [0, 2] ?_
    refine sr_rd rfl (rd_loads agg_api_Node (ev_t rfl) rfl (fun _ => B3.row)) ?_
    refine sr_store_all rfl sz_api_Node (ev_t rfl) (ev_t rfl) rfl rfl B2 rfl rfl ?_
    intro wS5 hgS5 hzS5
    clear B2
    intro B2
    replace B1 := B1.keep hgS5 (by intro h; injection h with h; first | exact x2_1 h.symm | exact x1_2 h | omega)
    replace B3 := B3.keep hgS5 (by intro h; injection h with h; first | exact x2_3 h.symm | exact x3_2 h | omega)
    have g := g_only g hgS5 (by intro k hk; injection hk with hk; omega)
    have hO := hO.keep hgS5 (by simp [Dx])
    refine sr_nil (hK11 _ _ ?_)
    refine sc_ret (t_retv1 rfl (evr_c rfl agg_api_Node rfl (by first | exact B1.row | exact B2.row | exact B3.row) (evr_nil)) ?_)
    exact ⟨retNd_kd (by rw [strip_kids]; exact hO.kd fun b hb => hb.1), g⟩
  replace h1 : countsB t = false := h1
  refine sc_skip (hK3 _ _ ?_)
  refine sc_sub [(1, _, _), (2, _, _), (3, _, _)] (sub_cons rfl (sub_cons rfl (sub_cons rfl (sub_nil _)))) ?_
  refine sc_seq fun K5 hK5 => ?_
  refine sc_seq fun K6 hK6 => ?_
  refine sc_text [3, 0, 3, 3] ?_
  replace B3 : Blk wS1 b3 ty_api_Node (ndCells (stripT t) (.slice none 0 0)) := by
    have h := B3
    rw [strip_cells, numS, h1]; exact h
  refine sr_pu rfl (fun _ => rd_field fo_api_Node_4 (ev_t rfl)) ?_
  refine sr_rd rfl (rd_load one_sl_api_Node (ev_t rfl) (fun _ => B1.at_ rfl)) ?_
  refine sr_pu rfl (fun _ => rd_len el_sl_api_Node (ev_t rfl)) ?_
  refine sr_pu rfl (fun _ => rd_move ev_c) ?_
  refine sr_sub [(2, _, _), (3, _, _), (23, _, _), (24, _, _), (25, _, _)] (sub_cons rfl (sub_cons rfl (sub_cons rfl (sub_cons rfl (sub_cons rfl (sub_nil _)))))) ?_
  refine sr_nil (hK6 _ _ ?_)
  refine sc_block ?_
  refine sc_loop3 (fun (i : Nat) u1 => (i ≤ t.kids.length ∧ ∃ s, Blk u1 b3 ty_api_Node (ndCells (stripT t) s) ∧ OwnK ty_api_Node (Dx w.heap.size [b1, b2, b3]) w.heap.size u1 ((t.kids.take i).map stripT) s) ∧ G w u1) _ [(2, True, _), (3, True, _), (23, True, _), (24, True, _)] (fun (i : Nat) => [(25, True, .int .i64 i)]) (fun (i : Nat) => t.kids.length - i) (0) ⟨⟨Nat.zero_le _, _, B3, ownK_nil _ _ _ _⟩, g⟩ (andE_mk (blkE B1) (andE_mk (blkE B2) (nilE_mk _))) (sub_cons rfl (sub_cons rfl (sub_cons rfl (sub_cons rfl (sub_cons rfl (sub_nil _)))))) ?_
  clear B1 B2 B3
  rintro i u1 ⟨hI1, gl1⟩ ⟨B1, B2, _⟩
  replace B1 : Blk _ _ _ _ := B1
  replace B2 : Blk _ _ _ _ := B2
  have g := gl1
  obtain ⟨hi, s, B3, hO⟩ := hI1
  obtain ⟨sa, sc, rfl⟩ := hO.slice
  refine sc_seq fun K7 hK7 => ?_
  refine sc_text [3] ?_
  refine sr_pu rfl (fun _ => rd_lt (ev_t rfl) (ev_t rfl)) ?_
  refine sr_nil (hK7 _ _ ?_)
  refine sc_sub [(2, _, _), (3, _, _), (23, _, _), (24, _, _), (25, _, _), (26, _, _)] (sub_cons rfl (sub_cons rfl (sub_cons rfl (sub_cons rfl (sub_cons rfl (sub_cons rfl (sub_nil _))))))) ?_
  refine sc_seq fun K8 hK8 => ?_
  refine sc_cond (ev_t rfl) (fun h2 => ?_) (fun h2 => ?_)
  · replace h2 : i < t.kids.length := by simp only [decide_eq_true_eq] at h2; omega
    obtain ⟨b, o, rfl, hD, xs, hR, hX⟩ := hks (by omega)
    obtain ⟨p', c', hcell, hkid⟩ := kd_at hR hX h2
    have hck := count_kid h2
    have hkl := kids_le t.kids[i]
    have hu := g.size
    have hO := hO.low
    refine sc_skip (hK8 _ _ ?_)
    refine sc_sub [(2, _, _), (3, _, _), (23, _, _), (24, _, _), (25, _, _)] (sub_cons rfl (sub_cons rfl (sub_cons rfl (sub_cons rfl (sub_cons rfl (sub_nil _)))))) ?_
    refine sc_seq fun K9 hK9 => ?_
    refine sc_block ?_
    refine sc_seq fun K10 hK10 => ?_
    refine sc_text [3, 0, 1, 2] ?_
    refine sr_pu rfl (fun _ => rd_idx el_sl_api_Node (ev_t rfl) (ev_t rfl) (fun _ => by omega)) ?_
    refine sr_rd rfl (rd_loads agg_api_Node (ev_t rfl) rfl (fun _ => hcell.grow g)) ?_
    refine sr_alloc rfl ze_api_Node rfl ?_
    intro b5 w5 N5
    have x5_1 := N5.ne B1
    have x5_2 := N5.ne B2
    have x5_3 := N5.ne B3
    have l5 := N5.ge g
    have g := g.trans (N5.g)
    replace B1 := B1.grow (N5.g)
    replace B2 := B2.grow (N5.g)
    replace B3 := B3.grow (N5.g)
    try have hO := hO.grow (N5.g)
    have B5 := N5.blk
    refine sr_store_all rfl sz_api_Node (ev_t rfl) (ev_t rfl) rfl rfl B5 rfl rfl ?_
    intro wS2 hgS2 hzS2
    clear B5
    intro B5
    replace B1 := B1.keep hgS2 (by intro h; injection h with h; first | exact x5_1 h.symm | exact x1_5 h | omega)
    replace B2 := B2.keep hgS2 (by intro h; injection h with h; first | exact x5_2 h.symm | exact x2_5 h | omega)
    replace B3 := B3.keep hgS2 (by intro h; injection h with h; first | exact x5_3 h.symm | exact x3_5 h | omega)
    have g := g_only g hgS2 (by intro k hk; injection hk with hk; omega)
    have hO := (hO.keep hgS2 (fun h => by have := N5.ge (G.refl _); have := h.2; omega)).mono fun b h => h.1
    refine sr_sub [(2, _, _), (3, _, _), (5, _, _), (23, _, _), (24, _, _), (25, _, _)] (sub_cons rfl (sub_cons rfl (sub_cons rfl (sub_cons rfl (sub_cons rfl (sub_cons rfl (sub_nil _))))))) ?_
    refine sr_nil (hK10 _ _ ?_)
    refine sc_draw [3, 0, 0, 1, 1, 2, 3, 2] [true, true, true, true, true, true, true, true] [0, 1, 0, 4, 12, 31, 63, 127] mix (by kernel_rfl) ?_
    have g := g.trans (G.drew _)
    replace B1 := B1.grow (G.drew _)
    replace B2 := B2.grow (G.drew _)
    replace B3 := B3.grow (G.drew _)
    replace B5 := B5.grow (G.drew _)
    try have hO := hO.grow (G.drew _)
    have hB1lt := B1.lt
    have hB2lt := B2.lt
    have hB3lt := B3.lt
    have hOlt := hO.lt
    have hdz : wS2.drew.drew.heap.size = wS2.drew.heap.size := rfl
    refine sr_pu rfl (fun _ => rd_field fo_api_Node_4 (ev_t rfl)) ?_
    refine sr_rd rfl (rd_load one_sl_api_Node (ev_t rfl) (fun _ => B3.at_ rfl)) ?_
    refine sr_rd rfl (rd_loads agg_api_Node (ev_t rfl) rfl (fun _ => B5.row)) ?_
    refine sr_call rfl (rc_call go_syntax_Strip ev_f (args_cons (ev_t rfl) (args_nil)) rfl) (ih _ (List.getElem_mem h2) _ _ _ (hkid.grow g) (by omega) (by omega)) ?_
    rintro v32 w32 ⟨⟨p2, c2, rfl, hk2⟩, g32⟩
    refine ⟨fun _ => g32, ?_⟩
    have g := g.trans g32
    replace B1 := B1.grow (g32)
    replace B2 := B2.grow (g32)
    replace B3 := B3.grow (g32)
    replace B5 := B5.grow (g32)
    try have hO := hO.grow (g32)
    refine sr_buildSlice [_, _, _, _, _, _, _, _, _] rfl el_sl_api_Node ze_api_Node (parts_cons (ev_t rfl) (parts_nil)) rfl rfl ?_
    intro b33 w33 N33
    have x33_1 := N33.ne B1
    have x33_2 := N33.ne B2
    have x33_3 := N33.ne B3
    have x33_5 := N33.ne B5
    have l33 := N33.ge g
    have g := g.trans (N33.g)
    replace B1 := B1.grow (N33.g)
    replace B2 := B2.grow (N33.g)
    replace B3 := B3.grow (N33.g)
    replace B5 := B5.grow (N33.g)
    try have hO := hO.grow (N33.g)
    have B33 := N33.blk
    have hk2 := hk2.grow N33.g
    have hOo := hO
    refine sr_appendK rfl el_sl_api_Node ze_api_Node rfl (ev_t rfl) hO (ev_t rfl) rfl B33.row (krow_one (hk2.mono fun k hk _ => ⟨⟨by have hk : _ ≤ k := hk; omega, by have hk : _ ≤ k := hk; simp; omega⟩, fun he => by have := hOlt k he.symm; have hk : _ ≤ k := hk; omega⟩)) (by simp; omega) (by have := g.size; omega) ⟨by have := g.size; omega, by have q1 := B1.lt; have q2 := B2.lt; have q3 := B3.lt; simp; omega⟩ ?_
    intro a34 c34 w34 hO hg34
    replace B1 := B1.keep hg34 (hOo.ne (by simp [Dx]))
    replace B2 := B2.keep hg34 (hOo.ne (by simp [Dx]))
    replace B3 := B3.keep hg34 (hOo.ne (by simp [Dx]))
    have g := g_only g hg34 (fun k hk => hOo.ge k hk)
    refine sr_pu rfl (fun _ => rd_field fo_api_Node_4 (ev_t rfl)) ?_
    refine sr_store_one rfl sz_sl_api_Node (ev_t rfl) (ev_t rfl) rfl B3 rfl rfl ?_
    intro wS3 hgS3 hzS3
    clear B3
    intro B3
    replace B1 := B1.keep hgS3 (by intro h; injection h with h; first | exact x3_1 h.symm | exact x1_3 h | omega)
    replace B2 := B2.keep hgS3 (by intro h; injection h with h; first | exact x3_2 h.symm | exact x2_3 h | omega)
    have g := g_only g hgS3 (by intro k hk; injection hk with hk; omega)
    have hO := hO.keep hgS3 (by simp [Dx])
    refine sr_sub [(2, _, _), (3, _, _), (23, _, _), (24, _, _), (25, _, _)] (sub_cons rfl (sub_cons rfl (sub_cons rfl (sub_cons rfl (sub_cons rfl (sub_nil _)))))) ?_
    refine sr_nil (hK9 _ _ ?_)
    refine sc_text [3, 3] ?_
    refine sr_pu rfl (fun _ => rd_add (ev_t rfl) ev_c (fun _ => by omega)) ?_
    refine sr_pu rfl (fun _ => rd_move (ev_t rfl)) ?_
    refine sr_sub [(25, _, _), (2, _, _), (3, _, _), (23, _, _), (24, _, _)] (sub_cons rfl (sub_cons rfl (sub_cons rfl (sub_cons rfl (sub_cons rfl (sub_nil _)))))) ?_
    refine sr_nil (fun a ha => ?_)
    exact ⟨i + 1, ha, ⟨⟨h2, _, B3, by rw [take_step h2, List.map_append]; exact hO⟩, g⟩, (andE_mk (blkE B1) (andE_mk (blkE B2) (nilE_mk _))), by omega⟩
  replace h2 : i = t.kids.length := by simp only [decide_eq_false_iff_not] at h2; omega
  subst h2
  rw [List.take_length] at hO B3
  refine sc_exit rfl (hK5 _ _ ?_)
  refine sc_sub [(2, _, _), (3, _, _)] (sub_cons rfl (sub_cons rfl (sub_nil _))) ?_
  refine sc_seq fun K11 hK11 => ?_
  refine sc_text [0, 2] ?_
  refine sr_rd rfl (rd_loads agg_api_Node (ev_t rfl) rfl (fun _ => B3.row)) ?_
  refine sr_store_all rfl sz_api_Node (ev_t rfl) (ev_t rfl) rfl rfl B2 rfl rfl ?_
  intro wS4 hgS4 hzS4
  clear B2
  intro B2
  replace B1 := B1.keep hgS4 (by intro h; injection h with h; first | exact x2_1 h.symm | exact x1_2 h | omega)
  replace B3 := B3.keep hgS4 (by intro h; injection h with h; first | exact x2_3 h.symm | exact x3_2 h | omega)
  have g := g_only g hgS4 (by intro k hk; injection hk with hk; omega)
  have hO := hO.keep hgS4 (by simp [Dx])
  refine sr_nil (hK11 _ _ ?_)
  refine sc_ret (t_retv1 rfl (evr_c rfl agg_api_Node rfl (by first | exact B1.row | exact B2.row | exact B3.row) (evr_nil)) ?_)
  exact ⟨retNd_kd (by rw [strip_kids]; exact hO.kd fun b hb => hb.1), g⟩
end Go.Rk
namespace Go.Rk
open Go Go.RowKit
set_option linter.unusedVariables false
def ndT (k : Int) (s : List UInt8) (ks : List Nd) : Nd := .mk k s 0 0 ks ty0 0 0
def sumN : Nd := ndT 32 [43] [ndT 27 [120] [], .mk 24 [] 1 0 [] ty0 0 0]
def lessN : Nd := ndT 32 [60] [ndT 27 [97] [], sumN]
def bodyN : Nd := ndT 10 [] [ndT 20 [] [lessN]]
def parN : Nd := ndT 5 [] [ndT 3 [97] [ndT 7 [105, 110, 116] []]]
def fncN (b : Nd) : Nd := ndT 4 [102] [parN, ndT 7 [98, 111, 111, 108] [], b]
def varN : Nd := ndT 6 [120] [ndT 7 [105, 110, 116] [], ndT 9 [] []]
def smpB (b : Nd) : Nd := ndT 1 [] [varN, fncN b]
def smpN : Nd := smpB bodyN
theorem lname03_ok (s : List UInt8) (w : World) : Ret PP fn_l03_name #[Str s] w fun r w' => r = ndV (ndT 27 s []) (.slice none 0 0) ∧ G w w' := by
  have g := G.refl w
  refine ret_of_sc (m := 5) func_l03_name rfl rfl [(0, True, _)] (sub_cons rfl (sub_nil _)) ?_
  refine sc_seq fun K1 hK1 => ?_
  refine sc_text [1] ?_
  refine sr_alloc rfl ze_api_Node rfl ?_
  intro b2 w2 N2
  have l2 := N2.ge g
  have g := g.trans (N2.g)
  have B2 := N2.blk
  refine sr_nil (hK1 _ _ ?_)
  refine sc_seq fun K2 hK2 => ?_
  refine sc_text [3, 3, 2] ?_
  refine sr_pu rfl (fun _ => rd_move (ev_t rfl)) ?_
  refine sr_pu rfl (fun _ => rd_build [_, _, _, _, _, _, _, _, _] ze_api_Node rfl pl_api_Node (parts_cons ev_c (parts_cons (ev_t rfl) (parts_nil))) rfl) ?_
  refine sr_store_all rfl sz_api_Node (ev_t rfl) (ev_t rfl) rfl rfl B2 rfl rfl ?_
  intro wS1 hgS1 hzS1
  clear B2
  intro B2
  have g := g_only g hgS1 (by intro k hk; injection hk with hk; omega)
  refine sr_sub [(2, _, _)] (sub_cons rfl (sub_nil _)) ?_
  refine sr_nil (hK2 _ _ ?_)
  refine sc_ret (t_retv1 rfl (evr_c rfl agg_api_Node rfl (by first | exact B2.row) (evr_nil)) ?_)
  exact ⟨rfl, g⟩
theorem ltyped03_ok (s : List UInt8) (w : World) : Ret PP fn_l03_typed #[Str s] w fun r w' => r = ndV (ndT 7 s []) (.slice none 0 0) ∧ G w w' := by
  have g := G.refl w
  refine ret_of_sc (m := 5) func_l03_typed rfl rfl [(0, True, _)] (sub_cons rfl (sub_nil _)) ?_
  refine sc_seq fun K1 hK1 => ?_
  refine sc_text [1] ?_
  refine sr_alloc rfl ze_api_Node rfl ?_
  intro b2 w2 N2
  have l2 := N2.ge g
  have g := g.trans (N2.g)
  have B2 := N2.blk
  refine sr_nil (hK1 _ _ ?_)
  refine sc_seq fun K2 hK2 => ?_
  refine sc_text [3, 3, 2] ?_
  refine sr_pu rfl (fun _ => rd_move (ev_t rfl)) ?_
  refine sr_pu rfl (fun _ => rd_build [_, _, _, _, _, _, _, _, _] ze_api_Node rfl pl_api_Node (parts_cons ev_c (parts_cons (ev_t rfl) (parts_nil))) rfl) ?_
  refine sr_store_all rfl sz_api_Node (ev_t rfl) (ev_t rfl) rfl rfl B2 rfl rfl ?_
  intro wS1 hgS1 hzS1
  clear B2
  intro B2
  have g := g_only g hgS1 (by intro k hk; injection hk with hk; omega)
  refine sr_sub [(2, _, _)] (sub_cons rfl (sub_nil _)) ?_
  refine sr_nil (hK2 _ _ ?_)
  refine sc_ret (t_retv1 rfl (evr_c rfl agg_api_Node rfl (by first | exact B2.row) (evr_nil)) ?_)
  exact ⟨rfl, g⟩
section
variable {P : Program} {n : Nat} {N T : Act → World → Prop} {X : List (Nat × (Act → World → Prop))} {σ : List Ent} {w : World}
/-- Two parts, and what holds between them. -/
theorem sc_mid {x y : Code} {α : Type} (τ : α → List Ent) (R : α → World → Prop) (h1 : SC P n x (fun a w => ∃ z, Kn n (τ z) a ∧ R z w) X T σ w) (h2 : ∀ z u, R z u → SC P n y N X T (τ z) u) : SC P n (.seq x y) N X T σ w :=
  sc_seq fun K hK a ha => Code.wp_mono (fun e a w q => by
    cases e with
    | normal =>
      obtain ⟨z, h, r⟩ := q
      exact hK _ _ (h2 z w r) a h
    | _ => exact q) (h1 a ha)
end
/-- From n on, but for b. -/
@[reducible] def GZ (n b : Nat) : Nat → Prop := fun k => n ≤ k ∧ k ≠ b
set_option maxHeartbeats 1000000 in
theorem sample_ok (w : World) : Ret PP fn_l03_sample #[] w fun r w' => RetD (GE w.heap.size) smpN r w' ∧ G w w' := by
  have g := G.refl w
  refine ret_of_sc (m := 38) func_l03_sample rfl rfl [] (sub_nil _) ?_
  refine sc_seq fun K1 hK1 => ?_
  refine sc_text [1] ?_
  refine sr_alloc rfl ze_api_Node rfl ?_
  intro b0 w0 N0
  have l0 := N0.ge g
  have g := g.trans (N0.g)
  try have k2 := k2.grow (N0.g)
  try have k5 := k5.grow (N0.g)
  have B0 := N0.blk
  refine sr_nil (hK1 _ _ ?_)
  refine sc_seq fun K2 hK2 => ?_
  refine sc_text [1, 3, 1, 3, 1, 2] ?_
  refine sr_call rfl (rc_call go_l03_name ev_f (args_cons ev_c (args_nil)) rfl) (lname03_ok _ _) ?_
  rintro v7 w7 ⟨rfl, g7⟩
  refine ⟨fun _ => g7, ?_⟩
  have g := g.trans (g7)
  replace B0 := B0.grow (g7)
  try have k2 := k2.grow (g7)
  try have k5 := k5.grow (g7)
  refine sr_pu rfl (fun _ => rd_build [_, _, _, _, _, _, _, _, _] ze_api_Node rfl pl_api_Node (parts_cons ev_c (parts_cons ev_c (parts_nil))) rfl) ?_
  refine sr_buildSlice [_, _, _, _, _, _, _, _, _, _, _, _, _, _, _, _, _, _] rfl el_sl_api_Node ze_api_Node (parts_cons (ev_t rfl) (parts_cons (ev_t rfl) (parts_nil))) rfl rfl ?_
  intro b9 w9 N9
  have x9_0 := N9.ne B0
  have l9 := N9.ge g
  have g := g.trans (N9.g)
  replace B0 := B0.grow (N9.g)
  try have k2 := k2.grow (N9.g)
  try have k5 := k5.grow (N9.g)
  have B9 := N9.blk
  refine sr_pu rfl (fun _ => rd_build [_, _, _, _, _, _, _, _, _] ze_api_Node rfl pl_api_Node (parts_cons ev_c (parts_cons ev_c (parts_cons (ev_t rfl) (parts_nil)))) rfl) ?_
  refine sr_alloc rfl ze_api_Node rfl ?_
  intro b1 w1 N1
  have x1_0 := N1.ne B0
  have x1_9 := N1.ne B9
  have l1 := N1.ge g
  have g := g.trans (N1.g)
  replace B0 := B0.grow (N1.g)
  replace B9 := B9.grow (N1.g)
  try have k2 := k2.grow (N1.g)
  try have k5 := k5.grow (N1.g)
  have B1 := N1.blk
  refine sr_store_all rfl sz_api_Node (ev_t rfl) (ev_t rfl) rfl rfl B1 rfl rfl ?_
  intro wS1 hgS1 hzS1
  clear B1
  intro B1
  replace B0 := B0.keep hgS1 (by intro h; injection h with h; first | exact x1_0 h.symm | exact x0_1 h | omega)
  replace B9 := B9.keep hgS1 (by intro h; injection h with h; first | exact x1_9 h.symm | exact x9_1 h | omega)
  have g := g_only g hgS1 (by intro k hk; injection hk with hk; omega)
  refine sr_sub [(0, _, _), (1, _, _)] (sub_cons rfl (sub_cons rfl (sub_nil _))) ?_
  refine sr_nil (hK2 _ _ ?_)
  refine sc_mid (fun (b2 : Nat) => [(0, True, .pointer (some ⟨b0, 0, none⟩)), (2, True, .pointer (some ⟨b2, 0, none⟩))]) (fun (b2 : Nat) u => G w u ∧ b2 ≠ b0 ∧ Blk u b0 ty_api_Node (ndCells nd0 (.slice none 0 0)) ∧ ∃ p c, Blk u b2 ty_api_Node (ndCells lessN (.slice p lessN.kids.length c)) ∧ Kd u (GZ w.heap.size b0) lessN.kids (.slice p lessN.kids.length c)) ?_ ?_
  · refine sc_drawT none [1, 0, 1, 3, 1, 2] [0, 0, 3, 7, 0, 31] mix (by kernel_rfl) [0, 1, 2, 3, 4, 5] rfl ?_
    have g := g.trans (G.drew _)
    replace B0 := B0.grow (G.drew _)
    replace B9 := B9.grow (G.drew _)
    replace B1 := B1.grow (G.drew _)
    try have k2 := k2.grow (G.drew _)
    try have k5 := k5.grow (G.drew _)
    refine st_rd (L' := [0, 2, 3, 4, 5]) 1 rfl rfl rfl (fun w1 hx => rd_loads agg_api_Node (ev_t rfl) rfl (fun _ => (B1.keep hx (by intro h; first | (injection h with h; omega) | cases h)).row)) ?_
    refine st_eff2 0 4 rfl rfl ?_ ?_
    · refine ste_of_sr (L' := [2, 3, 4, 5]) [1, 0, 1, 3, 1, 2] rfl rfl rfl ?_
      refine sr_call rfl (rc_call go_l03_name ev_f (args_cons ev_c (args_nil)) rfl) (lname03_ok _ _) ?_
      rintro v11 w11 ⟨rfl, g11⟩
      refine ⟨fun _ => g11, ?_⟩
      have g := g.trans (g11)
      replace B0 := B0.grow (g11)
      replace B9 := B9.grow (g11)
      replace B1 := B1.grow (g11)
      try have k2 := k2.grow (g11)
      try have k5 := k5.grow (g11)
      refine sr_nilT ((g11).only _) ?_
      refine st_eff2 2 4 rfl rfl ?_ ?_
      · refine ste_of_sr (L' := [3, 4, 5]) [1, 0, 1, 3, 1, 2] rfl rfl rfl ?_
        refine sr_buildSlice [_, _, _, _, _, _, _, _, _, _, _, _, _, _, _, _, _, _] rfl el_sl_api_Node ze_api_Node (parts_cons (ev_t rfl) (parts_cons (ev_t rfl) (parts_nil))) rfl rfl ?_
        intro b13 w13 N13
        have x13_0 := N13.ne B0
        have x13_9 := N13.ne B9
        have x13_1 := N13.ne B1
        have l13 := N13.ge g
        have g := g.trans (N13.g)
        replace B0 := B0.grow (N13.g)
        replace B9 := B9.grow (N13.g)
        replace B1 := B1.grow (N13.g)
        try have k2 := k2.grow (N13.g)
        try have k5 := k5.grow (N13.g)
        have B13 := N13.blk
        refine sr_nilT ((N13.g).only _) ?_
        refine st_pu (L' := [4, 5]) 3 rfl rfl rfl (fun _ => rd_build [_, _, _, _, _, _, _, _, _] ze_api_Node rfl pl_api_Node (parts_cons ev_c (parts_cons ev_c (parts_cons (ev_t rfl) (parts_nil)))) rfl) ?_
        refine st_eff1 4 rfl rfl ?_
        refine ste_of_sr (L' := [5]) [1, 0, 1, 3, 1, 2] rfl rfl rfl ?_
        refine sr_alloc rfl ze_api_Node rfl ?_
        intro b2 w2 N2
        have x2_0 := N2.ne B0
        have x2_9 := N2.ne B9
        have x2_1 := N2.ne B1
        have x2_13 := N2.ne B13
        have l2 := N2.ge g
        have g := g.trans (N2.g)
        replace B0 := B0.grow (N2.g)
        replace B9 := B9.grow (N2.g)
        replace B1 := B1.grow (N2.g)
        replace B13 := B13.grow (N2.g)
        try have k2 := k2.grow (N2.g)
        try have k5 := k5.grow (N2.g)
        have B2 := N2.blk
        refine sr_nilT ((N2.g).only _) ?_
        refine st_eff1 5 rfl rfl ?_
        refine ste2_of_sr (L' := []) [1, 0, 1, 3, 1, 2] rfl rfl rfl rfl ?_
        refine sr_store_all rfl sz_api_Node (ev_t rfl) (ev_t rfl) rfl rfl B2 rfl rfl ?_
        intro wS2 hgS2 hzS2
        clear B2
        intro B2
        replace B0 := B0.keep hgS2 (by intro h; injection h with h; first | exact x2_0 h.symm | exact x0_2 h | omega)
        replace B9 := B9.keep hgS2 (by intro h; injection h with h; first | exact x2_9 h.symm | exact x9_2 h | omega)
        replace B1 := B1.keep hgS2 (by intro h; injection h with h; first | exact x2_1 h.symm | exact x1_2 h | omega)
        replace B13 := B13.keep hgS2 (by intro h; injection h with h; first | exact x2_13 h.symm | exact x13_2 h | omega)
        have g := g_only g hgS2 (by intro k hk; injection hk with hk; omega)
        refine sr_nilT2 ?_
        refine st_sub [(0, _, _), (2, _, _)] (sub_cons rfl (sub_cons rfl (sub_nil _))) ?_
        refine st_nil (fun a ha => ?_)
        exact ⟨b2, ha, g, x2_0, B0, _, _, B2, kd_row (D := GZ w.heap.size b0) (ks := lessN.kids) ⟨l13, x13_0⟩ B13.row (krow_cons (t := ndT 27 [97] []) (kd_nil _ _) (krow_one (t := sumN) (kd_row (D := GZ w.heap.size b0) (ks := sumN.kids) ⟨l9, x9_0⟩ B9.row (krow_cons (t := ndT 27 [120] []) (kd_nil _ _) (krow_one (t := .mk 24 [] 1 0 [] ty0 0 0) (kd_nil _ _))) (Nat.le_refl _)))) (Nat.le_refl _)⟩
      · refine ste_of_sr (L' := [2, 3, 5]) [1, 0, 1, 3, 1, 2] rfl rfl rfl ?_
        refine sr_alloc rfl ze_api_Node rfl ?_
        intro b2 w2 N2
        have x2_0 := N2.ne B0
        have x2_9 := N2.ne B9
        have x2_1 := N2.ne B1
        have l2 := N2.ge g
        have g := g.trans (N2.g)
        replace B0 := B0.grow (N2.g)
        replace B9 := B9.grow (N2.g)
        replace B1 := B1.grow (N2.g)
        try have k2 := k2.grow (N2.g)
        try have k5 := k5.grow (N2.g)
        have B2 := N2.blk
        refine sr_nilT ((N2.g).only _) ?_
        refine st_eff1 2 rfl rfl ?_
        refine ste_of_sr (L' := [3, 5]) [1, 0, 1, 3, 1, 2] rfl rfl rfl ?_
        refine sr_buildSlice [_, _, _, _, _, _, _, _, _, _, _, _, _, _, _, _, _, _] rfl el_sl_api_Node ze_api_Node (parts_cons (ev_t rfl) (parts_cons (ev_t rfl) (parts_nil))) rfl rfl ?_
        intro b13 w13 N13
        have x13_0 := N13.ne B0
        have x13_9 := N13.ne B9
        have x13_1 := N13.ne B1
        have x13_2 := N13.ne B2
        have l13 := N13.ge g
        have g := g.trans (N13.g)
        replace B0 := B0.grow (N13.g)
        replace B9 := B9.grow (N13.g)
        replace B1 := B1.grow (N13.g)
        replace B2 := B2.grow (N13.g)
        try have k2 := k2.grow (N13.g)
        try have k5 := k5.grow (N13.g)
        have B13 := N13.blk
        refine sr_nilT ((N13.g).only _) ?_
        refine st_pu (L' := [5]) 3 rfl rfl rfl (fun _ => rd_build [_, _, _, _, _, _, _, _, _] ze_api_Node rfl pl_api_Node (parts_cons ev_c (parts_cons ev_c (parts_cons (ev_t rfl) (parts_nil)))) rfl) ?_
        refine st_eff1 5 rfl rfl ?_
        refine ste2_of_sr (L' := []) [1, 0, 1, 3, 1, 2] rfl rfl rfl rfl ?_
        refine sr_store_all rfl sz_api_Node (ev_t rfl) (ev_t rfl) rfl rfl B2 rfl rfl ?_
        intro wS2 hgS2 hzS2
        clear B2
        intro B2
        replace B0 := B0.keep hgS2 (by intro h; injection h with h; first | exact x2_0 h.symm | exact x0_2 h | omega)
        replace B9 := B9.keep hgS2 (by intro h; injection h with h; first | exact x2_9 h.symm | exact x9_2 h | omega)
        replace B1 := B1.keep hgS2 (by intro h; injection h with h; first | exact x2_1 h.symm | exact x1_2 h | omega)
        replace B13 := B13.keep hgS2 (by intro h; injection h with h; first | exact x2_13 h.symm | exact x13_2 h | omega)
        have g := g_only g hgS2 (by intro k hk; injection hk with hk; omega)
        refine sr_nilT2 ?_
        refine st_sub [(0, _, _), (2, _, _)] (sub_cons rfl (sub_cons rfl (sub_nil _))) ?_
        refine st_nil (fun a ha => ?_)
        exact ⟨b2, ha, g, x2_0, B0, _, _, B2, kd_row (D := GZ w.heap.size b0) (ks := lessN.kids) ⟨l13, x13_0⟩ B13.row (krow_cons (t := ndT 27 [97] []) (kd_nil _ _) (krow_one (t := sumN) (kd_row (D := GZ w.heap.size b0) (ks := sumN.kids) ⟨l9, x9_0⟩ B9.row (krow_cons (t := ndT 27 [120] []) (kd_nil _ _) (krow_one (t := .mk 24 [] 1 0 [] ty0 0 0) (kd_nil _ _))) (Nat.le_refl _)))) (Nat.le_refl _)⟩
    · refine ste_of_sr (L' := [0, 2, 3, 5]) [1, 0, 1, 3, 1, 2] rfl rfl rfl ?_
      refine sr_alloc rfl ze_api_Node rfl ?_
      intro b2 w2 N2
      have x2_0 := N2.ne B0
      have x2_9 := N2.ne B9
      have x2_1 := N2.ne B1
      have l2 := N2.ge g
      have g := g.trans (N2.g)
      replace B0 := B0.grow (N2.g)
      replace B9 := B9.grow (N2.g)
      replace B1 := B1.grow (N2.g)
      try have k2 := k2.grow (N2.g)
      try have k5 := k5.grow (N2.g)
      have B2 := N2.blk
      refine sr_nilT ((N2.g).only _) ?_
      refine st_eff1 0 rfl rfl ?_
      refine ste_of_sr (L' := [2, 3, 5]) [1, 0, 1, 3, 1, 2] rfl rfl rfl ?_
      refine sr_call rfl (rc_call go_l03_name ev_f (args_cons ev_c (args_nil)) rfl) (lname03_ok _ _) ?_
      rintro v11 w11 ⟨rfl, g11⟩
      refine ⟨fun _ => g11, ?_⟩
      have g := g.trans (g11)
      replace B0 := B0.grow (g11)
      replace B9 := B9.grow (g11)
      replace B1 := B1.grow (g11)
      replace B2 := B2.grow (g11)
      try have k2 := k2.grow (g11)
      try have k5 := k5.grow (g11)
      refine sr_nilT ((g11).only _) ?_
      refine st_eff1 2 rfl rfl ?_
      refine ste_of_sr (L' := [3, 5]) [1, 0, 1, 3, 1, 2] rfl rfl rfl ?_
      refine sr_buildSlice [_, _, _, _, _, _, _, _, _, _, _, _, _, _, _, _, _, _] rfl el_sl_api_Node ze_api_Node (parts_cons (ev_t rfl) (parts_cons (ev_t rfl) (parts_nil))) rfl rfl ?_
      intro b13 w13 N13
      have x13_0 := N13.ne B0
      have x13_9 := N13.ne B9
      have x13_1 := N13.ne B1
      have x13_2 := N13.ne B2
      have l13 := N13.ge g
      have g := g.trans (N13.g)
      replace B0 := B0.grow (N13.g)
      replace B9 := B9.grow (N13.g)
      replace B1 := B1.grow (N13.g)
      replace B2 := B2.grow (N13.g)
      try have k2 := k2.grow (N13.g)
      try have k5 := k5.grow (N13.g)
      have B13 := N13.blk
      refine sr_nilT ((N13.g).only _) ?_
      refine st_pu (L' := [5]) 3 rfl rfl rfl (fun _ => rd_build [_, _, _, _, _, _, _, _, _] ze_api_Node rfl pl_api_Node (parts_cons ev_c (parts_cons ev_c (parts_cons (ev_t rfl) (parts_nil)))) rfl) ?_
      refine st_eff1 5 rfl rfl ?_
      refine ste2_of_sr (L' := []) [1, 0, 1, 3, 1, 2] rfl rfl rfl rfl ?_
      refine sr_store_all rfl sz_api_Node (ev_t rfl) (ev_t rfl) rfl rfl B2 rfl rfl ?_
      intro wS2 hgS2 hzS2
      clear B2
      intro B2
      replace B0 := B0.keep hgS2 (by intro h; injection h with h; first | exact x2_0 h.symm | exact x0_2 h | omega)
      replace B9 := B9.keep hgS2 (by intro h; injection h with h; first | exact x2_9 h.symm | exact x9_2 h | omega)
      replace B1 := B1.keep hgS2 (by intro h; injection h with h; first | exact x2_1 h.symm | exact x1_2 h | omega)
      replace B13 := B13.keep hgS2 (by intro h; injection h with h; first | exact x2_13 h.symm | exact x13_2 h | omega)
      have g := g_only g hgS2 (by intro k hk; injection hk with hk; omega)
      refine sr_nilT2 ?_
      refine st_sub [(0, _, _), (2, _, _)] (sub_cons rfl (sub_cons rfl (sub_nil _))) ?_
      refine st_nil (fun a ha => ?_)
      exact ⟨b2, ha, g, x2_0, B0, _, _, B2, kd_row (D := GZ w.heap.size b0) (ks := lessN.kids) ⟨l13, x13_0⟩ B13.row (krow_cons (t := ndT 27 [97] []) (kd_nil _ _) (krow_one (t := sumN) (kd_row (D := GZ w.heap.size b0) (ks := sumN.kids) ⟨l9, x9_0⟩ B9.row (krow_cons (t := ndT 27 [120] []) (kd_nil _ _) (krow_one (t := .mk 24 [] 1 0 [] ty0 0 0) (kd_nil _ _))) (Nat.le_refl _)))) (Nat.le_refl _)⟩
  · rintro b2 wj2 ⟨g, x2_0, B0, p2, c2, B2, k2⟩
    have gj2 := G.refl wj2
    replace k2 := k2.lt
    refine sc_seq fun K4 hK4 => ?_
    refine sc_text [0, 1, 3, 1, 3, 1, 2] ?_
    refine sr_rd rfl (rd_loads agg_api_Node (ev_t rfl) rfl (fun _ => B2.row)) ?_
    refine sr_buildSlice [_, _, _, _, _, _, _, _, _] rfl el_sl_api_Node ze_api_Node (parts_cons (ev_t rfl) (parts_nil)) rfl rfl ?_
    intro b16 w16 N16
    have x16_0 := N16.ne B0
    have x16_2 := N16.ne B2
    have l16 := N16.ge g
    try have l16_gj2 := N16.ge gj2
    have g := g.trans (N16.g)
    try have gj2 := gj2.trans (N16.g)
    replace B0 := B0.grow (N16.g)
    replace B2 := B2.grow (N16.g)
    try have k2 := k2.grow (N16.g)
    try have k5 := k5.grow (N16.g)
    have B16 := N16.blk
    refine sr_pu rfl (fun _ => rd_build [_, _, _, _, _, _, _, _, _] ze_api_Node rfl pl_api_Node (parts_cons ev_c (parts_cons (ev_t rfl) (parts_nil))) rfl) ?_
    refine sr_buildSlice [_, _, _, _, _, _, _, _, _] rfl el_sl_api_Node ze_api_Node (parts_cons (ev_t rfl) (parts_nil)) rfl rfl ?_
    intro b18 w18 N18
    have x18_0 := N18.ne B0
    have x18_2 := N18.ne B2
    have x18_16 := N18.ne B16
    have l18 := N18.ge g
    try have l18_gj2 := N18.ge gj2
    have g := g.trans (N18.g)
    try have gj2 := gj2.trans (N18.g)
    replace B0 := B0.grow (N18.g)
    replace B2 := B2.grow (N18.g)
    replace B16 := B16.grow (N18.g)
    try have k2 := k2.grow (N18.g)
    try have k5 := k5.grow (N18.g)
    have B18 := N18.blk
    refine sr_pu rfl (fun _ => rd_build [_, _, _, _, _, _, _, _, _] ze_api_Node rfl pl_api_Node (parts_cons ev_c (parts_cons (ev_t rfl) (parts_nil))) rfl) ?_
    refine sr_alloc rfl ze_api_Node rfl ?_
    intro b3 w3 N3
    have x3_0 := N3.ne B0
    have x3_2 := N3.ne B2
    have x3_16 := N3.ne B16
    have x3_18 := N3.ne B18
    have l3 := N3.ge g
    try have l3_gj2 := N3.ge gj2
    have g := g.trans (N3.g)
    try have gj2 := gj2.trans (N3.g)
    replace B0 := B0.grow (N3.g)
    replace B2 := B2.grow (N3.g)
    replace B16 := B16.grow (N3.g)
    replace B18 := B18.grow (N3.g)
    try have k2 := k2.grow (N3.g)
    try have k5 := k5.grow (N3.g)
    have B3 := N3.blk
    refine sr_store_all rfl sz_api_Node (ev_t rfl) (ev_t rfl) rfl rfl B3 rfl rfl ?_
    intro wS3 hgS3 hzS3
    clear B3
    intro B3
    replace B0 := B0.keep hgS3 (by intro h; injection h with h; first | exact x3_0 h.symm | exact x0_3 h | omega)
    replace B2 := B2.keep hgS3 (by intro h; injection h with h; first | exact x3_2 h.symm | exact x2_3 h | omega)
    replace B16 := B16.keep hgS3 (by intro h; injection h with h; first | exact x3_16 h.symm | exact x16_3 h | omega)
    replace B18 := B18.keep hgS3 (by intro h; injection h with h; first | exact x3_18 h.symm | exact x18_3 h | omega)
    have g := g_only g hgS3 (by intro k hk; injection hk with hk; omega)
    first | replace gj2 := g_only gj2 hgS3 (by intro k hk; injection hk with hk; omega) | clear gj2 | skip
    have k2 := k2.keep hgS3 (fun b hb _ e => by injection e with e; have := l3_gj2; have := hb.2; omega)
    refine sr_sub [(0, _, _), (3, _, _)] (sub_cons rfl (sub_cons rfl (sub_nil _))) ?_
    refine sr_nil (hK4 _ _ ?_)
    refine sc_seq fun K5 hK5 => ?_
    refine sc_text [1, 1, 3, 1, 3, 1, 2] ?_
    refine sr_call rfl (rc_call go_l03_typed ev_f (args_cons ev_c (args_nil)) rfl) (ltyped03_ok _ _) ?_
    rintro v20 w20 ⟨rfl, g20⟩
    refine ⟨fun _ => g20, ?_⟩
    have g := g.trans (g20)
    try have gj2 := gj2.trans (g20)
    replace B0 := B0.grow (g20)
    replace B2 := B2.grow (g20)
    replace B16 := B16.grow (g20)
    replace B18 := B18.grow (g20)
    replace B3 := B3.grow (g20)
    try have k2 := k2.grow (g20)
    try have k5 := k5.grow (g20)
    refine sr_buildSlice [_, _, _, _, _, _, _, _, _] rfl el_sl_api_Node ze_api_Node (parts_cons (ev_t rfl) (parts_nil)) rfl rfl ?_
    intro b21 w21 N21
    have x21_0 := N21.ne B0
    have x21_2 := N21.ne B2
    have x21_16 := N21.ne B16
    have x21_18 := N21.ne B18
    have x21_3 := N21.ne B3
    have l21 := N21.ge g
    try have l21_gj2 := N21.ge gj2
    have g := g.trans (N21.g)
    try have gj2 := gj2.trans (N21.g)
    replace B0 := B0.grow (N21.g)
    replace B2 := B2.grow (N21.g)
    replace B16 := B16.grow (N21.g)
    replace B18 := B18.grow (N21.g)
    replace B3 := B3.grow (N21.g)
    try have k2 := k2.grow (N21.g)
    try have k5 := k5.grow (N21.g)
    have B21 := N21.blk
    refine sr_pu rfl (fun _ => rd_build [_, _, _, _, _, _, _, _, _] ze_api_Node rfl pl_api_Node (parts_cons ev_c (parts_cons ev_c (parts_cons (ev_t rfl) (parts_nil)))) rfl) ?_
    refine sr_buildSlice [_, _, _, _, _, _, _, _, _] rfl el_sl_api_Node ze_api_Node (parts_cons (ev_t rfl) (parts_nil)) rfl rfl ?_
    intro b23 w23 N23
    have x23_0 := N23.ne B0
    have x23_2 := N23.ne B2
    have x23_16 := N23.ne B16
    have x23_18 := N23.ne B18
    have x23_3 := N23.ne B3
    have x23_21 := N23.ne B21
    have l23 := N23.ge g
    try have l23_gj2 := N23.ge gj2
    have g := g.trans (N23.g)
    try have gj2 := gj2.trans (N23.g)
    replace B0 := B0.grow (N23.g)
    replace B2 := B2.grow (N23.g)
    replace B16 := B16.grow (N23.g)
    replace B18 := B18.grow (N23.g)
    replace B3 := B3.grow (N23.g)
    replace B21 := B21.grow (N23.g)
    try have k2 := k2.grow (N23.g)
    try have k5 := k5.grow (N23.g)
    have B23 := N23.blk
    refine sr_pu rfl (fun _ => rd_build [_, _, _, _, _, _, _, _, _] ze_api_Node rfl pl_api_Node (parts_cons ev_c (parts_cons (ev_t rfl) (parts_nil))) rfl) ?_
    refine sr_alloc rfl ze_api_Node rfl ?_
    intro b4 w4 N4
    have x4_0 := N4.ne B0
    have x4_2 := N4.ne B2
    have x4_16 := N4.ne B16
    have x4_18 := N4.ne B18
    have x4_3 := N4.ne B3
    have x4_21 := N4.ne B21
    have x4_23 := N4.ne B23
    have l4 := N4.ge g
    try have l4_gj2 := N4.ge gj2
    have g := g.trans (N4.g)
    try have gj2 := gj2.trans (N4.g)
    replace B0 := B0.grow (N4.g)
    replace B2 := B2.grow (N4.g)
    replace B16 := B16.grow (N4.g)
    replace B18 := B18.grow (N4.g)
    replace B3 := B3.grow (N4.g)
    replace B21 := B21.grow (N4.g)
    replace B23 := B23.grow (N4.g)
    try have k2 := k2.grow (N4.g)
    try have k5 := k5.grow (N4.g)
    have B4 := N4.blk
    refine sr_store_all rfl sz_api_Node (ev_t rfl) (ev_t rfl) rfl rfl B4 rfl rfl ?_
    intro wS4 hgS4 hzS4
    clear B4
    intro B4
    replace B0 := B0.keep hgS4 (by intro h; injection h with h; first | exact x4_0 h.symm | exact x0_4 h | omega)
    replace B2 := B2.keep hgS4 (by intro h; injection h with h; first | exact x4_2 h.symm | exact x2_4 h | omega)
    replace B16 := B16.keep hgS4 (by intro h; injection h with h; first | exact x4_16 h.symm | exact x16_4 h | omega)
    replace B18 := B18.keep hgS4 (by intro h; injection h with h; first | exact x4_18 h.symm | exact x18_4 h | omega)
    replace B3 := B3.keep hgS4 (by intro h; injection h with h; first | exact x4_3 h.symm | exact x3_4 h | omega)
    replace B21 := B21.keep hgS4 (by intro h; injection h with h; first | exact x4_21 h.symm | exact x21_4 h | omega)
    replace B23 := B23.keep hgS4 (by intro h; injection h with h; first | exact x4_23 h.symm | exact x23_4 h | omega)
    have g := g_only g hgS4 (by intro k hk; injection hk with hk; omega)
    first | replace gj2 := g_only gj2 hgS4 (by intro k hk; injection hk with hk; omega) | clear gj2 | skip
    have k2 := k2.keep hgS4 (fun b hb _ e => by injection e with e; have := l4_gj2; have := hb.2; omega)
    refine sr_sub [(0, _, _), (3, _, _), (4, _, _)] (sub_cons rfl (sub_cons rfl (sub_cons rfl (sub_nil _)))) ?_
    refine sr_nil (hK5 _ _ ?_)
    refine sc_mid (fun (b5 : Nat) => [(0, True, .pointer (some ⟨b0, 0, none⟩)), (5, True, .pointer (some ⟨b5, 0, none⟩))]) (fun (b5 : Nat) u => G w u ∧ b5 ≠ b0 ∧ Blk u b0 ty_api_Node (ndCells nd0 (.slice none 0 0)) ∧ ∃ p c, Blk u b5 ty_api_Node (ndCells (fncN bodyN) (.slice p (fncN bodyN).kids.length c)) ∧ Kd u (GZ w.heap.size b0) (fncN bodyN).kids (.slice p (fncN bodyN).kids.length c)) ?_ ?_
    · refine sc_drawT none [0, 1, 0, 1, 3, 1, 2] [0, 0, 0, 7, 15, 0, 63] mix (by kernel_rfl) [0, 1, 2, 3, 4, 5, 6] rfl ?_
      have g := g.trans (G.drew _)
      try have gj2 := gj2.trans (G.drew _)
      replace B0 := B0.grow (G.drew _)
      replace B2 := B2.grow (G.drew _)
      replace B16 := B16.grow (G.drew _)
      replace B18 := B18.grow (G.drew _)
      replace B3 := B3.grow (G.drew _)
      replace B21 := B21.grow (G.drew _)
      replace B23 := B23.grow (G.drew _)
      replace B4 := B4.grow (G.drew _)
      try have k2 := k2.grow (G.drew _)
      try have k5 := k5.grow (G.drew _)
      refine st_rd (L' := [1, 2, 3, 4, 5, 6]) 0 rfl rfl rfl (fun w1 hx => rd_loads agg_api_Node (ev_t rfl) rfl (fun _ => (B4.keep hx (by intro h; first | (injection h with h; omega) | cases h)).row)) ?_
      refine st_rd (L' := [1, 3, 4, 5, 6]) 2 rfl rfl rfl (fun w1 hx => rd_loads agg_api_Node (ev_t rfl) rfl (fun _ => (B3.keep hx (by intro h; first | (injection h with h; omega) | cases h)).row)) ?_
      refine st_eff2 1 5 rfl rfl ?_ ?_
      · refine ste_of_sr (L' := [3, 4, 5, 6]) [0, 1, 0, 1, 3, 1, 2] rfl rfl rfl ?_
        refine sr_call rfl (rc_call go_l03_typed ev_f (args_cons ev_c (args_nil)) rfl) (ltyped03_ok _ _) ?_
        rintro v26 w26 ⟨rfl, g26⟩
        refine ⟨fun _ => g26, ?_⟩
        have g := g.trans (g26)
        try have gj2 := gj2.trans (g26)
        replace B0 := B0.grow (g26)
        replace B2 := B2.grow (g26)
        replace B16 := B16.grow (g26)
        replace B18 := B18.grow (g26)
        replace B3 := B3.grow (g26)
        replace B21 := B21.grow (g26)
        replace B23 := B23.grow (g26)
        replace B4 := B4.grow (g26)
        try have k2 := k2.grow (g26)
        try have k5 := k5.grow (g26)
        refine sr_nilT ((g26).only _) ?_
        refine st_eff2 3 5 rfl rfl ?_ ?_
        · refine ste_of_sr (L' := [4, 5, 6]) [0, 1, 0, 1, 3, 1, 2] rfl rfl rfl ?_
          refine sr_buildSlice [_, _, _, _, _, _, _, _, _, _, _, _, _, _, _, _, _, _, _, _, _, _, _, _, _, _, _] rfl el_sl_api_Node ze_api_Node (parts_cons (ev_t rfl) (parts_cons (ev_t rfl) (parts_cons (ev_t rfl) (parts_nil)))) rfl rfl ?_
          intro b28 w28 N28
          have x28_0 := N28.ne B0
          have x28_2 := N28.ne B2
          have x28_16 := N28.ne B16
          have x28_18 := N28.ne B18
          have x28_3 := N28.ne B3
          have x28_21 := N28.ne B21
          have x28_23 := N28.ne B23
          have x28_4 := N28.ne B4
          have l28 := N28.ge g
          try have l28_gj2 := N28.ge gj2
          have g := g.trans (N28.g)
          try have gj2 := gj2.trans (N28.g)
          replace B0 := B0.grow (N28.g)
          replace B2 := B2.grow (N28.g)
          replace B16 := B16.grow (N28.g)
          replace B18 := B18.grow (N28.g)
          replace B3 := B3.grow (N28.g)
          replace B21 := B21.grow (N28.g)
          replace B23 := B23.grow (N28.g)
          replace B4 := B4.grow (N28.g)
          try have k2 := k2.grow (N28.g)
          try have k5 := k5.grow (N28.g)
          have B28 := N28.blk
          refine sr_nilT ((N28.g).only _) ?_
          refine st_pu (L' := [5, 6]) 4 rfl rfl rfl (fun _ => rd_build [_, _, _, _, _, _, _, _, _] ze_api_Node rfl pl_api_Node (parts_cons ev_c (parts_cons ev_c (parts_cons (ev_t rfl) (parts_nil)))) rfl) ?_
          refine st_eff1 5 rfl rfl ?_
          refine ste_of_sr (L' := [6]) [0, 1, 0, 1, 3, 1, 2] rfl rfl rfl ?_
          refine sr_alloc rfl ze_api_Node rfl ?_
          intro b5 w5 N5
          have x5_0 := N5.ne B0
          have x5_2 := N5.ne B2
          have x5_16 := N5.ne B16
          have x5_18 := N5.ne B18
          have x5_3 := N5.ne B3
          have x5_21 := N5.ne B21
          have x5_23 := N5.ne B23
          have x5_4 := N5.ne B4
          have x5_28 := N5.ne B28
          have l5 := N5.ge g
          try have l5_gj2 := N5.ge gj2
          have g := g.trans (N5.g)
          try have gj2 := gj2.trans (N5.g)
          replace B0 := B0.grow (N5.g)
          replace B2 := B2.grow (N5.g)
          replace B16 := B16.grow (N5.g)
          replace B18 := B18.grow (N5.g)
          replace B3 := B3.grow (N5.g)
          replace B21 := B21.grow (N5.g)
          replace B23 := B23.grow (N5.g)
          replace B4 := B4.grow (N5.g)
          replace B28 := B28.grow (N5.g)
          try have k2 := k2.grow (N5.g)
          try have k5 := k5.grow (N5.g)
          have B5 := N5.blk
          refine sr_nilT ((N5.g).only _) ?_
          refine st_eff1 6 rfl rfl ?_
          refine ste2_of_sr (L' := []) [0, 1, 0, 1, 3, 1, 2] rfl rfl rfl rfl ?_
          refine sr_store_all rfl sz_api_Node (ev_t rfl) (ev_t rfl) rfl rfl B5 rfl rfl ?_
          intro wS5 hgS5 hzS5
          clear B5
          intro B5
          replace B0 := B0.keep hgS5 (by intro h; injection h with h; first | exact x5_0 h.symm | exact x0_5 h | omega)
          replace B2 := B2.keep hgS5 (by intro h; injection h with h; first | exact x5_2 h.symm | exact x2_5 h | omega)
          replace B16 := B16.keep hgS5 (by intro h; injection h with h; first | exact x5_16 h.symm | exact x16_5 h | omega)
          replace B18 := B18.keep hgS5 (by intro h; injection h with h; first | exact x5_18 h.symm | exact x18_5 h | omega)
          replace B3 := B3.keep hgS5 (by intro h; injection h with h; first | exact x5_3 h.symm | exact x3_5 h | omega)
          replace B21 := B21.keep hgS5 (by intro h; injection h with h; first | exact x5_21 h.symm | exact x21_5 h | omega)
          replace B23 := B23.keep hgS5 (by intro h; injection h with h; first | exact x5_23 h.symm | exact x23_5 h | omega)
          replace B4 := B4.keep hgS5 (by intro h; injection h with h; first | exact x5_4 h.symm | exact x4_5 h | omega)
          replace B28 := B28.keep hgS5 (by intro h; injection h with h; first | exact x5_28 h.symm | exact x28_5 h | omega)
          have g := g_only g hgS5 (by intro k hk; injection hk with hk; omega)
          first | replace gj2 := g_only gj2 hgS5 (by intro k hk; injection hk with hk; omega) | clear gj2 | skip
          have k2 := k2.keep hgS5 (fun b hb _ e => by injection e with e; have := l5_gj2; have := hb.2; omega)
          refine sr_nilT2 ?_
          refine st_sub [(0, _, _), (5, _, _)] (sub_cons rfl (sub_cons rfl (sub_nil _))) ?_
          refine st_nil (fun a ha => ?_)
          exact ⟨b5, ha, g, x5_0, B0, _, _, B5, kd_row (D := GZ w.heap.size b0) (ks := (fncN bodyN).kids) ⟨l28, x28_0⟩ B28.row (krow_cons (t := parN) (kd_one (t := ndT 3 [97] [ndT 7 [105, 110, 116] []]) (D := GZ w.heap.size b0) ⟨l23, x23_0⟩ B23 (kd_one (t := ndT 7 [105, 110, 116] []) (D := GZ w.heap.size b0) ⟨l21, x21_0⟩ B21 (kd_nil _ _))) (krow_cons (t := ndT 7 [98, 111, 111, 108] []) (kd_nil _ _) (krow_one (t := bodyN) (kd_one (t := ndT 20 [] [lessN]) (D := GZ w.heap.size b0) ⟨l18, x18_0⟩ B18 (kd_one (t := lessN) (D := GZ w.heap.size b0) ⟨l16, x16_0⟩ B16 (k2.mono fun _ h _ => h.1)))))) (Nat.le_refl _)⟩
        · refine ste_of_sr (L' := [3, 4, 6]) [0, 1, 0, 1, 3, 1, 2] rfl rfl rfl ?_
          refine sr_alloc rfl ze_api_Node rfl ?_
          intro b5 w5 N5
          have x5_0 := N5.ne B0
          have x5_2 := N5.ne B2
          have x5_16 := N5.ne B16
          have x5_18 := N5.ne B18
          have x5_3 := N5.ne B3
          have x5_21 := N5.ne B21
          have x5_23 := N5.ne B23
          have x5_4 := N5.ne B4
          have l5 := N5.ge g
          try have l5_gj2 := N5.ge gj2
          have g := g.trans (N5.g)
          try have gj2 := gj2.trans (N5.g)
          replace B0 := B0.grow (N5.g)
          replace B2 := B2.grow (N5.g)
          replace B16 := B16.grow (N5.g)
          replace B18 := B18.grow (N5.g)
          replace B3 := B3.grow (N5.g)
          replace B21 := B21.grow (N5.g)
          replace B23 := B23.grow (N5.g)
          replace B4 := B4.grow (N5.g)
          try have k2 := k2.grow (N5.g)
          try have k5 := k5.grow (N5.g)
          have B5 := N5.blk
          refine sr_nilT ((N5.g).only _) ?_
          refine st_eff1 3 rfl rfl ?_
          refine ste_of_sr (L' := [4, 6]) [0, 1, 0, 1, 3, 1, 2] rfl rfl rfl ?_
          refine sr_buildSlice [_, _, _, _, _, _, _, _, _, _, _, _, _, _, _, _, _, _, _, _, _, _, _, _, _, _, _] rfl el_sl_api_Node ze_api_Node (parts_cons (ev_t rfl) (parts_cons (ev_t rfl) (parts_cons (ev_t rfl) (parts_nil)))) rfl rfl ?_
          intro b28 w28 N28
          have x28_0 := N28.ne B0
          have x28_2 := N28.ne B2
          have x28_16 := N28.ne B16
          have x28_18 := N28.ne B18
          have x28_3 := N28.ne B3
          have x28_21 := N28.ne B21
          have x28_23 := N28.ne B23
          have x28_4 := N28.ne B4
          have x28_5 := N28.ne B5
          have l28 := N28.ge g
          try have l28_gj2 := N28.ge gj2
          have g := g.trans (N28.g)
          try have gj2 := gj2.trans (N28.g)
          replace B0 := B0.grow (N28.g)
          replace B2 := B2.grow (N28.g)
          replace B16 := B16.grow (N28.g)
          replace B18 := B18.grow (N28.g)
          replace B3 := B3.grow (N28.g)
          replace B21 := B21.grow (N28.g)
          replace B23 := B23.grow (N28.g)
          replace B4 := B4.grow (N28.g)
          replace B5 := B5.grow (N28.g)
          try have k2 := k2.grow (N28.g)
          try have k5 := k5.grow (N28.g)
          have B28 := N28.blk
          refine sr_nilT ((N28.g).only _) ?_
          refine st_pu (L' := [6]) 4 rfl rfl rfl (fun _ => rd_build [_, _, _, _, _, _, _, _, _] ze_api_Node rfl pl_api_Node (parts_cons ev_c (parts_cons ev_c (parts_cons (ev_t rfl) (parts_nil)))) rfl) ?_
          refine st_eff1 6 rfl rfl ?_
          refine ste2_of_sr (L' := []) [0, 1, 0, 1, 3, 1, 2] rfl rfl rfl rfl ?_
          refine sr_store_all rfl sz_api_Node (ev_t rfl) (ev_t rfl) rfl rfl B5 rfl rfl ?_
          intro wS5 hgS5 hzS5
          clear B5
          intro B5
          replace B0 := B0.keep hgS5 (by intro h; injection h with h; first | exact x5_0 h.symm | exact x0_5 h | omega)
          replace B2 := B2.keep hgS5 (by intro h; injection h with h; first | exact x5_2 h.symm | exact x2_5 h | omega)
          replace B16 := B16.keep hgS5 (by intro h; injection h with h; first | exact x5_16 h.symm | exact x16_5 h | omega)
          replace B18 := B18.keep hgS5 (by intro h; injection h with h; first | exact x5_18 h.symm | exact x18_5 h | omega)
          replace B3 := B3.keep hgS5 (by intro h; injection h with h; first | exact x5_3 h.symm | exact x3_5 h | omega)
          replace B21 := B21.keep hgS5 (by intro h; injection h with h; first | exact x5_21 h.symm | exact x21_5 h | omega)
          replace B23 := B23.keep hgS5 (by intro h; injection h with h; first | exact x5_23 h.symm | exact x23_5 h | omega)
          replace B4 := B4.keep hgS5 (by intro h; injection h with h; first | exact x5_4 h.symm | exact x4_5 h | omega)
          replace B28 := B28.keep hgS5 (by intro h; injection h with h; first | exact x5_28 h.symm | exact x28_5 h | omega)
          have g := g_only g hgS5 (by intro k hk; injection hk with hk; omega)
          first | replace gj2 := g_only gj2 hgS5 (by intro k hk; injection hk with hk; omega) | clear gj2 | skip
          have k2 := k2.keep hgS5 (fun b hb _ e => by injection e with e; have := l5_gj2; have := hb.2; omega)
          refine sr_nilT2 ?_
          refine st_sub [(0, _, _), (5, _, _)] (sub_cons rfl (sub_cons rfl (sub_nil _))) ?_
          refine st_nil (fun a ha => ?_)
          exact ⟨b5, ha, g, x5_0, B0, _, _, B5, kd_row (D := GZ w.heap.size b0) (ks := (fncN bodyN).kids) ⟨l28, x28_0⟩ B28.row (krow_cons (t := parN) (kd_one (t := ndT 3 [97] [ndT 7 [105, 110, 116] []]) (D := GZ w.heap.size b0) ⟨l23, x23_0⟩ B23 (kd_one (t := ndT 7 [105, 110, 116] []) (D := GZ w.heap.size b0) ⟨l21, x21_0⟩ B21 (kd_nil _ _))) (krow_cons (t := ndT 7 [98, 111, 111, 108] []) (kd_nil _ _) (krow_one (t := bodyN) (kd_one (t := ndT 20 [] [lessN]) (D := GZ w.heap.size b0) ⟨l18, x18_0⟩ B18 (kd_one (t := lessN) (D := GZ w.heap.size b0) ⟨l16, x16_0⟩ B16 (k2.mono fun _ h _ => h.1)))))) (Nat.le_refl _)⟩
      · refine ste_of_sr (L' := [1, 3, 4, 6]) [0, 1, 0, 1, 3, 1, 2] rfl rfl rfl ?_
        refine sr_alloc rfl ze_api_Node rfl ?_
        intro b5 w5 N5
        have x5_0 := N5.ne B0
        have x5_2 := N5.ne B2
        have x5_16 := N5.ne B16
        have x5_18 := N5.ne B18
        have x5_3 := N5.ne B3
        have x5_21 := N5.ne B21
        have x5_23 := N5.ne B23
        have x5_4 := N5.ne B4
        have l5 := N5.ge g
        try have l5_gj2 := N5.ge gj2
        have g := g.trans (N5.g)
        try have gj2 := gj2.trans (N5.g)
        replace B0 := B0.grow (N5.g)
        replace B2 := B2.grow (N5.g)
        replace B16 := B16.grow (N5.g)
        replace B18 := B18.grow (N5.g)
        replace B3 := B3.grow (N5.g)
        replace B21 := B21.grow (N5.g)
        replace B23 := B23.grow (N5.g)
        replace B4 := B4.grow (N5.g)
        try have k2 := k2.grow (N5.g)
        try have k5 := k5.grow (N5.g)
        have B5 := N5.blk
        refine sr_nilT ((N5.g).only _) ?_
        refine st_eff1 1 rfl rfl ?_
        refine ste_of_sr (L' := [3, 4, 6]) [0, 1, 0, 1, 3, 1, 2] rfl rfl rfl ?_
        refine sr_call rfl (rc_call go_l03_typed ev_f (args_cons ev_c (args_nil)) rfl) (ltyped03_ok _ _) ?_
        rintro v26 w26 ⟨rfl, g26⟩
        refine ⟨fun _ => g26, ?_⟩
        have g := g.trans (g26)
        try have gj2 := gj2.trans (g26)
        replace B0 := B0.grow (g26)
        replace B2 := B2.grow (g26)
        replace B16 := B16.grow (g26)
        replace B18 := B18.grow (g26)
        replace B3 := B3.grow (g26)
        replace B21 := B21.grow (g26)
        replace B23 := B23.grow (g26)
        replace B4 := B4.grow (g26)
        replace B5 := B5.grow (g26)
        try have k2 := k2.grow (g26)
        try have k5 := k5.grow (g26)
        refine sr_nilT ((g26).only _) ?_
        refine st_eff1 3 rfl rfl ?_
        refine ste_of_sr (L' := [4, 6]) [0, 1, 0, 1, 3, 1, 2] rfl rfl rfl ?_
        refine sr_buildSlice [_, _, _, _, _, _, _, _, _, _, _, _, _, _, _, _, _, _, _, _, _, _, _, _, _, _, _] rfl el_sl_api_Node ze_api_Node (parts_cons (ev_t rfl) (parts_cons (ev_t rfl) (parts_cons (ev_t rfl) (parts_nil)))) rfl rfl ?_
        intro b28 w28 N28
        have x28_0 := N28.ne B0
        have x28_2 := N28.ne B2
        have x28_16 := N28.ne B16
        have x28_18 := N28.ne B18
        have x28_3 := N28.ne B3
        have x28_21 := N28.ne B21
        have x28_23 := N28.ne B23
        have x28_4 := N28.ne B4
        have x28_5 := N28.ne B5
        have l28 := N28.ge g
        try have l28_gj2 := N28.ge gj2
        have g := g.trans (N28.g)
        try have gj2 := gj2.trans (N28.g)
        replace B0 := B0.grow (N28.g)
        replace B2 := B2.grow (N28.g)
        replace B16 := B16.grow (N28.g)
        replace B18 := B18.grow (N28.g)
        replace B3 := B3.grow (N28.g)
        replace B21 := B21.grow (N28.g)
        replace B23 := B23.grow (N28.g)
        replace B4 := B4.grow (N28.g)
        replace B5 := B5.grow (N28.g)
        try have k2 := k2.grow (N28.g)
        try have k5 := k5.grow (N28.g)
        have B28 := N28.blk
        refine sr_nilT ((N28.g).only _) ?_
        refine st_pu (L' := [6]) 4 rfl rfl rfl (fun _ => rd_build [_, _, _, _, _, _, _, _, _] ze_api_Node rfl pl_api_Node (parts_cons ev_c (parts_cons ev_c (parts_cons (ev_t rfl) (parts_nil)))) rfl) ?_
        refine st_eff1 6 rfl rfl ?_
        refine ste2_of_sr (L' := []) [0, 1, 0, 1, 3, 1, 2] rfl rfl rfl rfl ?_
        refine sr_store_all rfl sz_api_Node (ev_t rfl) (ev_t rfl) rfl rfl B5 rfl rfl ?_
        intro wS5 hgS5 hzS5
        clear B5
        intro B5
        replace B0 := B0.keep hgS5 (by intro h; injection h with h; first | exact x5_0 h.symm | exact x0_5 h | omega)
        replace B2 := B2.keep hgS5 (by intro h; injection h with h; first | exact x5_2 h.symm | exact x2_5 h | omega)
        replace B16 := B16.keep hgS5 (by intro h; injection h with h; first | exact x5_16 h.symm | exact x16_5 h | omega)
        replace B18 := B18.keep hgS5 (by intro h; injection h with h; first | exact x5_18 h.symm | exact x18_5 h | omega)
        replace B3 := B3.keep hgS5 (by intro h; injection h with h; first | exact x5_3 h.symm | exact x3_5 h | omega)
        replace B21 := B21.keep hgS5 (by intro h; injection h with h; first | exact x5_21 h.symm | exact x21_5 h | omega)
        replace B23 := B23.keep hgS5 (by intro h; injection h with h; first | exact x5_23 h.symm | exact x23_5 h | omega)
        replace B4 := B4.keep hgS5 (by intro h; injection h with h; first | exact x5_4 h.symm | exact x4_5 h | omega)
        replace B28 := B28.keep hgS5 (by intro h; injection h with h; first | exact x5_28 h.symm | exact x28_5 h | omega)
        have g := g_only g hgS5 (by intro k hk; injection hk with hk; omega)
        first | replace gj2 := g_only gj2 hgS5 (by intro k hk; injection hk with hk; omega) | clear gj2 | skip
        have k2 := k2.keep hgS5 (fun b hb _ e => by injection e with e; have := l5_gj2; have := hb.2; omega)
        refine sr_nilT2 ?_
        refine st_sub [(0, _, _), (5, _, _)] (sub_cons rfl (sub_cons rfl (sub_nil _))) ?_
        refine st_nil (fun a ha => ?_)
        exact ⟨b5, ha, g, x5_0, B0, _, _, B5, kd_row (D := GZ w.heap.size b0) (ks := (fncN bodyN).kids) ⟨l28, x28_0⟩ B28.row (krow_cons (t := parN) (kd_one (t := ndT 3 [97] [ndT 7 [105, 110, 116] []]) (D := GZ w.heap.size b0) ⟨l23, x23_0⟩ B23 (kd_one (t := ndT 7 [105, 110, 116] []) (D := GZ w.heap.size b0) ⟨l21, x21_0⟩ B21 (kd_nil _ _))) (krow_cons (t := ndT 7 [98, 111, 111, 108] []) (kd_nil _ _) (krow_one (t := bodyN) (kd_one (t := ndT 20 [] [lessN]) (D := GZ w.heap.size b0) ⟨l18, x18_0⟩ B18 (kd_one (t := lessN) (D := GZ w.heap.size b0) ⟨l16, x16_0⟩ B16 (k2.mono fun _ h _ => h.1)))))) (Nat.le_refl _)⟩
    · clear k2
      rintro b5 wj5 ⟨g, x5_0, B0, p5, c5, B5, k5⟩
      have gj5 := G.refl wj5
      replace k5 := k5.lt
      refine sc_seq fun K7 hK7 => ?_
      refine sc_text [1, 3, 1, 3, 1, 2] ?_
      refine sr_call rfl (rc_call go_l03_typed ev_f (args_cons ev_c (args_nil)) rfl) (ltyped03_ok _ _) ?_
      rintro v30 w30 ⟨rfl, g30⟩
      refine ⟨fun _ => g30, ?_⟩
      have g := g.trans (g30)
      try have gj5 := gj5.trans (g30)
      replace B0 := B0.grow (g30)
      replace B5 := B5.grow (g30)
      try have k2 := k2.grow (g30)
      try have k5 := k5.grow (g30)
      refine sr_pu rfl (fun _ => rd_build [_, _, _, _, _, _, _, _, _] ze_api_Node rfl pl_api_Node (parts_cons ev_c (parts_nil)) rfl) ?_
      refine sr_buildSlice [_, _, _, _, _, _, _, _, _, _, _, _, _, _, _, _, _, _] rfl el_sl_api_Node ze_api_Node (parts_cons (ev_t rfl) (parts_cons (ev_t rfl) (parts_nil))) rfl rfl ?_
      intro b32 w32 N32
      have x32_0 := N32.ne B0
      have x32_5 := N32.ne B5
      have l32 := N32.ge g
      try have l32_gj5 := N32.ge gj5
      have g := g.trans (N32.g)
      try have gj5 := gj5.trans (N32.g)
      replace B0 := B0.grow (N32.g)
      replace B5 := B5.grow (N32.g)
      try have k2 := k2.grow (N32.g)
      try have k5 := k5.grow (N32.g)
      have B32 := N32.blk
      refine sr_pu rfl (fun _ => rd_build [_, _, _, _, _, _, _, _, _] ze_api_Node rfl pl_api_Node (parts_cons ev_c (parts_cons ev_c (parts_cons (ev_t rfl) (parts_nil)))) rfl) ?_
      refine sr_alloc rfl ze_api_Node rfl ?_
      intro b6 w6 N6
      have x6_0 := N6.ne B0
      have x6_5 := N6.ne B5
      have x6_32 := N6.ne B32
      have l6 := N6.ge g
      try have l6_gj5 := N6.ge gj5
      have g := g.trans (N6.g)
      try have gj5 := gj5.trans (N6.g)
      replace B0 := B0.grow (N6.g)
      replace B5 := B5.grow (N6.g)
      replace B32 := B32.grow (N6.g)
      try have k2 := k2.grow (N6.g)
      try have k5 := k5.grow (N6.g)
      have B6 := N6.blk
      refine sr_store_all rfl sz_api_Node (ev_t rfl) (ev_t rfl) rfl rfl B6 rfl rfl ?_
      intro wS6 hgS6 hzS6
      clear B6
      intro B6
      replace B0 := B0.keep hgS6 (by intro h; injection h with h; first | exact x6_0 h.symm | exact x0_6 h | omega)
      replace B5 := B5.keep hgS6 (by intro h; injection h with h; first | exact x6_5 h.symm | exact x5_6 h | omega)
      replace B32 := B32.keep hgS6 (by intro h; injection h with h; first | exact x6_32 h.symm | exact x32_6 h | omega)
      have g := g_only g hgS6 (by intro k hk; injection hk with hk; omega)
      first | replace gj5 := g_only gj5 hgS6 (by intro k hk; injection hk with hk; omega) | clear gj5 | skip
      have k5 := k5.keep hgS6 (fun b hb _ e => by injection e with e; have := l6_gj5; have := hb.2; omega)
      refine sr_sub [(0, _, _), (5, _, _), (6, _, _)] (sub_cons rfl (sub_cons rfl (sub_cons rfl (sub_nil _)))) ?_
      refine sr_nil (hK7 _ _ ?_)
      refine sc_seq fun K8 hK8 => ?_
      refine sc_text [0, 0, 1, 3, 2] ?_
      refine sr_rd rfl (rd_loads agg_api_Node (ev_t rfl) rfl (fun _ => B6.row)) ?_
      refine sr_rd rfl (rd_loads agg_api_Node (ev_t rfl) rfl (fun _ => B5.row)) ?_
      refine sr_buildSlice [_, _, _, _, _, _, _, _, _, _, _, _, _, _, _, _, _, _] rfl el_sl_api_Node ze_api_Node (parts_cons (ev_t rfl) (parts_cons (ev_t rfl) (parts_nil))) rfl rfl ?_
      intro b36 w36 N36
      have x36_0 := N36.ne B0
      have x36_5 := N36.ne B5
      have x36_32 := N36.ne B32
      have x36_6 := N36.ne B6
      have l36 := N36.ge g
      try have l36_gj5 := N36.ge gj5
      have g := g.trans (N36.g)
      try have gj5 := gj5.trans (N36.g)
      replace B0 := B0.grow (N36.g)
      replace B5 := B5.grow (N36.g)
      replace B32 := B32.grow (N36.g)
      replace B6 := B6.grow (N36.g)
      try have k2 := k2.grow (N36.g)
      try have k5 := k5.grow (N36.g)
      have B36 := N36.blk
      refine sr_pu rfl (fun _ => rd_build [_, _, _, _, _, _, _, _, _] ze_api_Node rfl pl_api_Node (parts_cons ev_c (parts_cons (ev_t rfl) (parts_nil))) rfl) ?_
      refine sr_store_all rfl sz_api_Node (ev_t rfl) (ev_t rfl) rfl rfl B0 rfl rfl ?_
      intro wS7 hgS7 hzS7
      clear B0
      intro B0
      replace B5 := B5.keep hgS7 (by intro h; injection h with h; first | exact x0_5 h.symm | exact x5_0 h | omega)
      replace B32 := B32.keep hgS7 (by intro h; injection h with h; first | exact x0_32 h.symm | exact x32_0 h | omega)
      replace B6 := B6.keep hgS7 (by intro h; injection h with h; first | exact x0_6 h.symm | exact x6_0 h | omega)
      replace B36 := B36.keep hgS7 (by intro h; injection h with h; first | exact x0_36 h.symm | exact x36_0 h | omega)
      have g := g_only g hgS7 (by intro k hk; injection hk with hk; omega)
      first | replace gj5 := g_only gj5 hgS7 (by intro k hk; injection hk with hk; omega) | clear gj5 | skip
      have k5 := k5.keep hgS7 (fun b hb _ e => by injection e with e; exact hb.1.2 e)
      refine sr_sub [(0, _, _)] (sub_cons rfl (sub_nil _)) ?_
      refine sr_nil (hK8 _ _ ?_)
      refine sc_ret (t_retv1 rfl (evr_c rfl agg_api_Node rfl (by first | exact B0.row | exact B5.row | exact B32.row | exact B6.row | exact B36.row) (evr_nil)) ?_)
      have k32 : Kd _ (GE w.heap.size) varN.kids (.slice (some ⟨b32, 0, none⟩) 2 2) := kd_row l32 B32.row (krow_cons (t := ndT 7 [105, 110, 116] []) (kd_nil _ _) (krow_one (t := ndT 9 [] []) (kd_nil _ _))) (Nat.le_refl _)
      have k36 : Kd _ (GE w.heap.size) smpN.kids (.slice (some ⟨b36, 0, none⟩) 2 2) := kd_row l36 B36.row (krow_cons (t := varN) k32 (krow_one (t := fncN bodyN) (k5.mono fun _ h _ => h.1.1))) (Nat.le_refl _)
      exact ⟨⟨_, _, rfl, k36⟩, g⟩
theorem smp_count : count smpN = 16 := by decide +kernel
theorem obj_grow {w w' : World} {k : Nat} {o : Obj} (h : w.heap[k]? = some o) (g : G w w') : w'.heap[k]? = some o := (g.block (Array.getElem?_eq_some_iff.1 h).1).trans h
theorem obj_only {w w' : World} {k j : Nat} {o : Obj} (h : w.heap[k]? = some o) (g : w.grownBy w' (some j)) (hj : k ≠ j) : w'.heap[k]? = some o := (g.block k (Array.getElem?_eq_some_iff.1 h).1 (fun e => hj (by injection e))).trans h
theorem underlying_fn {P : Program} {t : TypeId} (h : (match P.underlying t with | some (.func ..) => true | _ => false) = true) : ∃ a b c, P.underlying t = some (.func a b c) := by
  split at h
  · exact ⟨_, _, _, ‹_›⟩
  · cases h
theorem eq_fn {P : Program} {t : TypeId} {ps rs : Array TypeId} {v : Bool} (he : P.underlying t = some (.func ps rs v)) (f : Fn) (cs lb : Array Value) (d : Nat) (w : World) : (Op.equalIn (d + 1) t (.func f cs lb) .nilFunc).run P w = .ok false w := by
  simp [Op.equalIn, run_underlying he]
theorem rd_fneq {P : Program} {n : Nat} {σ : List Ent} {c : Prop} {wb : World} {ty t u : TypeId} {x : Operand} {f : Fn} {cs lb : Array Value} (ht : (match P.underlying t with | some (.func ..) => true | _ => false) = true) (h : Ev n σ c x (.func f cs lb)) : Rd P n σ c wb (.binOp .eql t x (.const .nilFunc) u) ty (.bool false) := fun d pos after gd a ha hc w1 _ => by
  obtain ⟨p, q, v, he⟩ := underlying_fn ht
  simp [execOp, h a ha hc, eval_const, eqGuard_at_func, binOp, Op.equal, Op.maxDepth, eq_fn he f cs lb 9999 w1]
end Go.Rk
namespace Go.Rk
open Go Go.RowKit
set_option linter.unusedVariables false
theorem smp_valid : validB smpN = true := by decide +kernel
theorem smp_eq : eqB smpN (stripT smpN) = true := by decide +kernel
theorem smp_text : printX smpN = [118, 97, 114, 32, 120, 32, 105, 110, 116, 10, 102, 117, 110, 99, 32, 102, 40, 97, 32, 105, 110, 116, 41, 32, 98, 111, 111, 108, 32, 123, 10, 9, 114, 101, 116, 117, 114, 110, 32, 97, 32, 60, 32, 40, 120, 32, 43, 32, 49, 41, 10, 125, 10] := by decide +kernel
theorem smp_ok : okNd smpN := by
  simp only [smpN, smpB, varN, fncN, parN, bodyN, lessN, sumN, ndT, okNd_eq, Nd.kids, Nd.kind, Nd.num, Nd.pos, Nd.ty, Nd.ref, Nd.up, ty0, rng, List.map_cons, List.map_nil, List.mem_cons, List.not_mem_nil]
  simp
theorem awake03_ok (w : World) (hL : Laid w) (hb3 : 4 ≤ w.heap.size) (hT : TabP w) : Ret PP fn_l03_awake #[] w fun r w' => r = .bool true ∧ G w w' := by
  have g := G.refl w
  refine ret_of_scd (m := 42) func_l03_awake rfl rfl [] (sub_nil _) ?_
  refine scd_seq fun K1 hK1 => ?_
  refine scd_text [1] ?_
  refine sr_alloc rfl ze_bool rfl ?_
  intro b0 w0 N0
  have l0 := N0.ge g
  have g := g.trans (N0.g)
  try have hk4 := hk4.grow (N0.g)
  try have hdb1 := obj_grow hdb1 (N0.g)
  have B0 := N0.blk
  refine sr_nil (hK1 _ _ _ ?_)
  refine scd_seq fun K2 hK2 => ?_
  refine scd_text [1, 1, 2] ?_
  refine sr_call rfl (rc_call go_l03_sample ev_f (args_nil) rfl) (sample_ok _) ?_
  rintro v4 w4 ⟨⟨p4, c4, rfl, hk4⟩, g4⟩
  refine ⟨fun _ => g4, ?_⟩
  have g := g.trans g4
  replace hk4 := hk4.lt
  replace B0 := B0.grow (g4)
  try have hk4 := hk4.grow (g4)
  try have hdb1 := obj_grow hdb1 (g4)
  refine sr_alloc rfl ze_api_Node rfl ?_
  intro b1 w1 N1
  have x1_0 := N1.ne B0
  have l1 := N1.ge g
  have g := g.trans (N1.g)
  replace B0 := B0.grow (N1.g)
  try have hk4 := hk4.grow (N1.g)
  try have hdb1 := obj_grow hdb1 (N1.g)
  have B1 := N1.blk
  refine sr_store_all rfl sz_api_Node (ev_t rfl) (ev_t rfl) rfl rfl B1 rfl rfl ?_
  intro wS1 hgS1 hzS1
  clear B1
  intro B1
  replace B0 := B0.keep hgS1 (by intro h; injection h with h; first | exact x1_0 h.symm | exact x0_1 h | omega)
  have g := g_only g hgS1 (by intro k hk; injection hk with hk; omega)
  have hk4 := hk4.keep hgS1 (fun b hb _ e => by injection e with e; have := hb.2; have := N1.at_; omega)
  have hsz4 : w4.heap.size ≤ wS1.heap.size := by have := N1.g.size; have := hgS1.size; omega
  refine sr_sub [(0, _, _), (1, _, _)] (sub_cons rfl (sub_cons rfl (sub_nil _))) ?_
  refine sr_nil (hK2 _ _ _ ?_)
  refine scd_seq fun K3 hK3 => ?_
  refine scd_text [0, 1, 3] ?_
  generalize hD4 : (fun b => GE _ b ∧ b < w4.heap.size) = D4 at hk4
  have hD : ∀ k, D4 k → k < w4.heap.size := fun k h => by rw [← hD4] at h; exact h.2
  refine sr_rd rfl (rd_loads agg_api_Node (ev_t rfl) rfl (fun _ => B1.row)) ?_
  refine sr_call rfl (rc_call go_syntax_Walk ev_f (args_cons (ev_t rfl) (args_nil)) rfl) (swalk_ok smpN _ D4 _ hk4 (fun k h => by have := hD k h; omega) (by rw [smp_count]; decide)) ?_
  rintro v6 w6 ⟨g6, bw, hbw, hbw2, rfl, hit⟩
  refine ⟨fun _ => g6, ?_⟩
  have g := g.trans g6
  have hk4 := hk4.grow g6
  have hsz6 := g6.size
  replace B0 := B0.grow (g6)
  replace B1 := B1.grow (g6)
  try have hk4 := hk4.grow (g6)
  try have hdb1 := obj_grow hdb1 (g6)
  have gW := G.refl w6
  refine sr_pu rfl (fun _ => rd_assign (ev_t rfl)) ?_
  refine sr_sub [(0, _, _), (1, _, _), (2, _, _)] (sub_cons rfl (sub_cons rfl (sub_cons rfl (sub_nil _)))) ?_
  refine sr_nil (hK3 _ _ _ ?_)
  refine scd_seq fun K4 hK4 => ?_
  refine scd_seq fun K5 hK5 => ?_
  refine scd_text [3, 3, 3, 0, 1, 3, 3] ?_
  refine sr_pu rfl (fun _ => rd_move (ev_t rfl)) ?_
  refine sr_pu rfl (fun _ => rd_fneq (by kernel_rfl) (ev_t rfl)) ?_
  refine sr_pu rfl (fun _ => rd_move (ev_t rfl)) ?_
  refine sr_rdg rfl rfl rfl (rd_loads agg_api_Node (ev_t rfl) rfl (fun _ => B1.row)) ?_
  refine sr_pureg rfl rfl rfl (fun _ => (rc_call go_syntax_Count ev_f (args_cons (ev_u rfl id) (args_nil)) rfl)) (fun hc => scount_ok smpN _ D4 _ hk4 (by rw [smp_count]; decide)) (fun w11 g11 => ?_)
  have g := g.trans (g11)
  try have gW := gW.trans (g11)
  replace B0 := B0.grow (g11)
  replace B1 := B1.grow (g11)
  try have hk4 := hk4.grow (g11)
  try have hdb1 := obj_grow hdb1 (g11)
  refine sr_pug rfl rfl rfl (fun _ => rd_ne (ev_u rfl id) ev_c) ?_
  refine sr_pu rfl (fun _ => rd_pick_or (ev_t rfl) (ev_u rfl id)) ?_
  refine sr_sub [(0, _, _), (1, _, _), (2, _, _), (13, _, _)] (sub_cons rfl (sub_cons rfl (sub_cons rfl (sub_cons rfl (sub_nil _))))) ?_
  refine sr_nil (hK5 _ _ _ ?_)
  refine scd_cond (ev_t rfl) (fun h1 => ?_) (fun h1 => ?_)
  · exfalso; rw [smp_count] at h1; revert h1; decide
    done
  (try simp only [bsimp] at h1)
  refine scd_skip (hK4 _ _ _ ?_)
  refine scd_sub [(0, _, _), (1, _, _), (2, _, _)] (sub_cons rfl (sub_cons rfl (sub_cons rfl (sub_nil _)))) ?_
  refine scd_seq fun K6 hK6 => ?_
  refine scd_text [1, 2] ?_
  refine sr_alloc rfl ze_int rfl ?_
  intro b3 w3 N3
  have x3_0 := N3.ne B0
  have x3_1 := N3.ne B1
  have l3 := N3.ge g
  try have l3_gW := N3.ge gW
  have g := g.trans (N3.g)
  try have gW := gW.trans (N3.g)
  replace B0 := B0.grow (N3.g)
  replace B1 := B1.grow (N3.g)
  try have hk4 := hk4.grow (N3.g)
  try have hdb1 := obj_grow hdb1 (N3.g)
  have B3 := N3.blk
  refine sr_store_all rfl sz_int (ev_t rfl) ev_c rfl rfl B3 rfl rfl ?_
  intro wS2 hgS2 hzS2
  clear B3
  intro B3
  replace B0 := B0.keep hgS2 (by intro h; injection h with h; first | exact x3_0 h.symm | exact x0_3 h | omega)
  replace B1 := B1.keep hgS2 (by intro h; injection h with h; first | exact x3_1 h.symm | exact x1_3 h | omega)
  have g := g_only g hgS2 (by intro k hk; injection hk with hk; omega)
  first | replace gW := g_only gW hgS2 (by intro k hk; injection hk with hk; omega) | clear gW | skip
  try have hk4 := hk4.keep hgS2 (fun b hb _ e => by injection e with e; have := hD b hb; omega)
  refine sr_nil (hK6 _ _ _ ?_)
  refine scd_seq fun K7 hK7 => ?_
  refine scd_seq fun K8 hK8 => ?_
  refine scd_text [3] ?_
  refine sr_pu rfl (fun _ => rd_move (ev_t rfl)) ?_
  refine sr_sub [(0, _, _), (1, _, _), (3, _, _), (14, _, _)] (sub_cons rfl (sub_cons rfl (sub_cons rfl (sub_cons rfl (sub_nil _))))) ?_
  refine sr_nil (hK8 _ _ _ ?_)
  refine scd_block ?_
  refine' scd_range (fs := #[]) (Nb := fun k => D4 k ∨ k = bw) (Bx := fun k => k = b3) (L := listN smpN) (En := EnN D4) (ev_t rfl) (go_syntax_Walk_1) (hit _ gW) (fun k hk => by rcases hk with hk | hk; (have := hD k hk; have := gW.size; omega); (have := gW.size; omega)) (fun k hk => ⟨by have := B3.lt; omega, fun h => by rcases h with h | h; (have := hD k h; omega); omega⟩) (fun pre A => Blk A b3 ty_int [.int .i64 (pre.length : Nat)]) (fun _ _ _ => False) [] rfl ?hI1 ?hX1 ?hE1 ?hG1 ?h01 ?body1 ?done1 ?stop1
  case hI1 =>
    exact fun pre A C h g => h.gi g
  case hX1 =>
    exact fun _ _ _ _ h _ => h.elim
  case hE1 =>
    exact fun x A args h => enN_one h
  case hG1 =>
    exact fun x A C args h g => enN_gi h g
  case h01 =>
    exact B3
  case body1 =>
    intro lk pre x v A hI1 hpre hx hsz KK hKK
    have g := G.refl A
    refine scd_sub [(0, _, _), (3, _, _)] (sub_cons rfl (sub_cons rfl (sub_nil _))) ?_
    refine scd_skip (hKK _ _ g ?_)
    intro C hgC hI1 hx
    have g := GB.refl (fun k => k = b3) C
    have B3 := hI1
    have hle : pre.length + 1 ≤ 16 := by have := hpre.length_le; rw [listN_length, smp_count] at this; simpa using this
    refine scd_block ?_
    refine scd_seq fun K9 hK9 => ?_
    refine scd_text [0, 3, 2] ?_
    refine sr_rd rfl (rd_load one_int (ev_t rfl) (fun _ => B3.at_ rfl)) ?_
    refine sr_pu rfl (fun _ => rd_add (ev_t rfl) ev_c (fun _ => by omega)) ?_
    refine sr_store_all rfl sz_int (ev_t rfl) (ev_t rfl) rfl rfl B3 rfl rfl ?_
    intro wS3 hgS3 hzS3
    clear B3
    intro B3
    have g := gb_only g hgS3 (by first | exact .inl (by simp) | exact .inr (by omega))
    try have hk4 := hk4.keep hgS3 (fun b hb _ e => by injection e with e; have := hD b hb; omega)
    refine sr_sub [(0, _, _), (3, _, _)] (sub_cons rfl (sub_cons rfl (sub_nil _))) ?_
    refine sr_nil (hK9 _ _ _ ?_)
    refine scd_seq fun K10 hK10 => ?_
    refine scd_text [0, 3] ?_
    refine sr_rd rfl (rd_load one_int (ev_t rfl) (fun _ => B3.at_ rfl)) ?_
    refine sr_pu rfl (fun _ => rd_gt (ev_t rfl) ev_c) ?_
    refine sr_sub [(0, _, _), (19, _, _)] (sub_cons rfl (sub_cons rfl (sub_nil _))) ?_
    refine sr_nil (hK10 _ _ _ ?_)
    refine scd_cond (ev_t rfl) (fun h2 => ?_) (fun h2 => ?_)
    · exfalso; simp at h2; omega
      done
    (try simp only [bsimp] at h2)
    refine scd_skip (fun a ha => ⟨rfl, ?_⟩)
    exact ⟨g, by simpa using B3⟩
  case done1 =>
    intro db1 W1 hI1 hge1 hdb1 hgb1
    have hwd := Nat.le_trans g.size hge1
    have hb0l := B0.lt
    have hb3l := B3.lt
    replace B0 := B0.gb hgb1 (fun h => x3_0 h.symm)
    replace B1 := B1.gb hgb1 (fun h => x3_1 h.symm)
    have hk4 := hk4.gb hgb1 (fun b hb h => by have := hD b hb; omega)
    have B3 := hI1
    have g := g_gb g hgb1 (fun k hk => by subst hk; omega)
    rw [listN_length, smp_count] at B3
    refine id (hK7 _ _ _ ?_)
    refine scd_sub [(0, _, _), (1, _, _), (3, _, _)] (sub_cons rfl (sub_cons rfl (sub_cons rfl (sub_nil _)))) ?_
    refine scd_seq fun K11 hK11 => ?_
    refine scd_draw [0, 3, 3, 0, 1, 3, 3, 0, 1, 3, 3, 3, 0, 0, 1, 1, 3, 3, 0, 1, 3, 3, 2] [true, true, true, true, true, true, true, true, true, true, true, true, true, true, true, true, true, true, true, true, true, true, true] [0, 1, 3, 7, 15, 31, 63, 127, 255, 511, 1023, 2047, 4095, 4095, 12287, 32767, 65535, 131071, 262143, 524287, 1048575, 2097151, 4194303] mix (by kernel_rfl) ?_
    have g := g.trans (G.drew _)
    replace B0 := B0.grow (G.drew _)
    replace B1 := B1.grow (G.drew _)
    replace B3 := B3.grow (G.drew _)
    try have hk4 := hk4.grow (G.drew _)
    try have hdb1 := obj_grow hdb1 (G.drew _)
    refine sr_rd rfl (rd_load one_int (ev_t rfl) (fun _ => B3.at_ rfl)) ?_
    refine sr_pu rfl (fun _ => rd_eq (ev_t rfl) ev_c) ?_
    refine sr_pu rfl (fun _ => rd_move (ev_t rfl)) ?_
    refine sr_rdg rfl rfl rfl (rd_loads agg_api_Node (ev_t rfl) rfl (fun _ => B1.row)) ?_
    refine sr_pureg rfl rfl rfl (fun _ => (rc_call go_syntax_Valid ev_f (args_cons (ev_u rfl id) (args_nil)) rfl)) (fun hc => svalid_ok smpN _ D4 _ (hL.grow g) (by have := g.size; omega) hk4 (by rw [smp_count]; decide)) (fun w24 g24 => ?_)
    have g := g.trans (g24)
    replace B0 := B0.grow (g24)
    replace B1 := B1.grow (g24)
    replace B3 := B3.grow (g24)
    try have hk4 := hk4.grow (g24)
    try have hdb1 := obj_grow hdb1 (g24)
    refine sr_pu rfl (fun _ => rd_pick_and (ev_t rfl) (ev_u rfl id)) ?_
    refine sr_pu rfl (fun _ => rd_move (ev_t rfl)) ?_
    refine sr_rdg rfl rfl rfl (rd_loads agg_api_Node (ev_t rfl) rfl (fun _ => B1.row)) ?_
    refine sr_pureg rfl rfl rfl (fun _ => (rc_call go_syntax_Count ev_f (args_cons (ev_u rfl id) (args_nil)) rfl)) (fun hc => scount_ok smpN _ D4 _ hk4 (by rw [smp_count]; decide)) (fun w28 g28 => ?_)
    have g := g.trans (g28)
    replace B0 := B0.grow (g28)
    replace B1 := B1.grow (g28)
    replace B3 := B3.grow (g28)
    try have hk4 := hk4.grow (g28)
    try have hdb1 := obj_grow hdb1 (g28)
    refine sr_pug rfl rfl rfl (fun _ => rd_eq (ev_u rfl id) ev_c) ?_
    refine sr_pu rfl (fun _ => rd_pick_and (ev_t rfl) (ev_u rfl id)) ?_
    refine sr_pu rfl (fun _ => rd_move (ev_t rfl)) ?_
    refine sr_rdg rfl rfl rfl (rd_loads agg_api_Node (ev_t rfl) rfl (fun _ => B1.row)) ?_
    refine sr_rdg rfl rfl rfl (rd_loads agg_api_Node (ev_t rfl) rfl (fun _ => B1.row)) ?_
    refine sr_callq rfl rfl rfl (fun _ => rc_call go_syntax_Strip ev_f (args_cons (ev_u rfl id) (args_nil)) rfl) (fun hc => sstrip_ok smpN _ D4 _ hk4 (by decide) (by rw [smp_count]; decide)) ?_
    intro v34 w34 hv34 g34
    have g := g.trans (g34)
    replace B0 := B0.grow (g34)
    replace B1 := B1.grow (g34)
    replace B3 := B3.grow (g34)
    try have hk4 := hk4.grow (g34)
    try have hdb1 := obj_grow hdb1 (g34)
    refine sr_pureg rfl rfl rfl (fun _ => (rc_call go_syntax_Equal ev_f (args_cons (ev_u rfl id) (args_cons (ev_u rfl id) (args_nil))) rfl)) (fun hc => (by obtain ⟨p5, c5, e5, k5⟩ := hv34 hc; rw [e5]; exact sequal_ok smpN _ D4 (stripT smpN) _ _ _ hk4 k5 (by rw [smp_count]; decide))) (fun w35 g35 => ?_)
    have g := g.trans (g35)
    replace B0 := B0.grow (g35)
    replace B1 := B1.grow (g35)
    replace B3 := B3.grow (g35)
    try have hk4 := hk4.grow (g35)
    try have hdb1 := obj_grow hdb1 (g35)
    refine sr_pu rfl (fun _ => rd_pick_and (ev_t rfl) (ev_u rfl id)) ?_
    refine sr_pu rfl (fun _ => rd_move (ev_t rfl)) ?_
    refine sr_rdg rfl rfl rfl (rd_loads agg_api_Node (ev_t rfl) rfl (fun _ => B1.row)) ?_
    refine sr_pureg rfl rfl rfl (fun _ => (rc_call go_syntax_Print ev_f (args_cons (ev_u rfl id) (args_nil)) rfl)) (fun hc => print_ok smpN _ D4 _ (hL.grow g) (by have := g.size; omega) (hT.grow g) hk4 (by rw [smp_count]; decide) smp_ok (by rw [smp_text]; decide)) (fun w39 g39 => ?_)
    have g := g.trans (g39)
    replace B0 := B0.grow (g39)
    replace B1 := B1.grow (g39)
    replace B3 := B3.grow (g39)
    try have hk4 := hk4.grow (g39)
    try have hdb1 := obj_grow hdb1 (g39)
    refine sr_pug rfl rfl rfl (fun _ => rd_seq (ev_u rfl id) ev_c) ?_
    refine sr_pu rfl (fun _ => rd_pick_and (ev_t rfl) (ev_u rfl id)) ?_
    refine sr_store_all rfl sz_bool (ev_t rfl) (ev_t rfl) rfl rfl B0 rfl rfl ?_
    intro wS4 hgS4 hzS4
    clear B0
    intro B0
    replace B1 := B1.keep hgS4 (by intro h; injection h with h; first | exact x0_1 h.symm | exact x1_0 h | omega)
    replace B3 := B3.keep hgS4 (by intro h; injection h with h; first | exact x0_3 h.symm | exact x3_0 h | omega)
    have g := g_only g hgS4 (by intro k hk; injection hk with hk; omega)
    try have hdb1 := obj_only hdb1 hgS4 (by omega)
    refine sr_nil (hK11 _ _ _ ?_)
    refine scd_ret (?_)
    refine td_mark hdb1 ?_
    have hgi := gi_putObj (.deferred none) hdb1 rfl hwd
    replace B0 := B0.gi hgi
    have g := g_gi g hgi (Nat.le_refl _)
    refine td_ret (t_retv1 rfl (evr_c1 rfl one_bool (by first | exact B0.at_ rfl | exact B1.at_ rfl | exact B3.at_ rfl) (evr_nil)) ?_)
    refine ⟨congrArg Value.bool ?_, g⟩
    rw [smp_valid, smp_count, smp_eq, smp_text]; rfl
  case stop1 =>
    intro db1 c1 pre x W1 hI1 hpre hge1 hdb1 hgb1
    exact hI1.elim
end Go.Rk
