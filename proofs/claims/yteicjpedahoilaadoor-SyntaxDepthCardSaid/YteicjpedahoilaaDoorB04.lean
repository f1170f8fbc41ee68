/- Merged texts of one road: Own, RefA, RefB, SynA, RefC, SynB. Conditions: each text's own. -/
import Derived.Test.YteicjpedahoilaaDoorB03
import Derived.Test.YteicjpedahoilaaDoorB02
set_option linter.unusedSimpArgs false
set_option linter.unusedVariables false
namespace Go.Rk
open Go Go.RowKit
set_option linter.unusedVariables false
/-! loops that carry facts on the world -/
def BlkE (b : Nat) (e : TypeId) (l : List Value) (w : World) : Prop := Blk w b e l
def andE (p q : World → Prop) (w : World) : Prop := p w ∧ q w
def nilE (w : World) : Prop := True
theorem blkE {w : World} {b : Nat} {e : TypeId} {l : List Value} (h : Blk w b e l) : BlkE b e l w := h
theorem andE_mk {p q : World → Prop} {w : World} (h : p w) (k : q w) : andE p q w := ⟨h, k⟩
theorem nilE_mk (w : World) : nilE w := trivial
section
variable {P : Program} {n : Nat} {N T : Act → World → Prop} {X : List (Nat × (Act → World → Prop))} {σ : List Ent} {w : World}
theorem sc_loop3 {c : Code} {α : Type} (I : α → World → Prop) (E : World → Prop) (σc : List Ent) (σf : α → List Ent) (μ : α → Nat) (x0 : α) (h0 : I x0 w) (hE : E w) (hs : Sub (σf x0 ++ σc) σ)
    (round : ∀ x w, I x w → E w → SC P n c (fun a' w' => ∃ y, Kn n (σf y ++ σc) a' ∧ I y w' ∧ E w' ∧ μ y < μ x) X T (σf x ++ σc) w) : SC P n (.loop c) N X T σ w := by
  refine sc_loop (fun x w => I x w ∧ E w) (fun x => σf x ++ σc) μ x0 ⟨h0, hE⟩ hs fun x w ⟨h1, h2⟩ => ?_
  refine fun a ha => Code.wp_mono (fun e a w q => ?_) (round x w h1 h2 a ha)
  cases e with
  | normal => obtain ⟨y, q1, q2, q3, q4⟩ := q; exact ⟨y, q1, ⟨q2, q3⟩, q4⟩
  | _ => exact q
end
theorem krow_ones {w : World} {D : Nat → Prop} : ∀ {ls : List Nd} {news : List Value}, KRow w D ls news → onesB news = true
  | [], news, h => by rw [show news = [] from h]; rfl
  | t :: ls, news, h => by
    obtain ⟨v, r, rfl, hkn, hr⟩ := h
    rw [knd_eq] at hkn
    obtain ⟨p, c, rfl, _⟩ := hkn
    have := krow_ones hr
    unfold onesB at this ⊢
    rw [List.all_append, this, Bool.and_true]; rfl
/-! own rows -/
/-- New blocks but for some. -/
def Dx (base : Nat) (X : List Nat) (b : Nat) : Prop := base ≤ b ∧ b ∉ X
/-- A list of nodes in a row of one's own: the nodes' own blocks are all of D, the row's too. -/
def OwnK (e : TypeId) (D : Nat → Prop) (base : Nat) (w : World) (ks : List Nd) (s : Value) : Prop :=
  ∃ xs, w.ownsRow base e 9 s ks.length xs ∧ KRow w (fun b => D b ∧ some b ≠ s.ownBlock) ks xs ∧ ∀ b, s.ownBlock = some b → D b
section
variable {e : TypeId} {D : Nat → Prop} {base : Nat} {w w' : World} {ks : List Nd} {s : Value}
theorem ownK_nil (e : TypeId) (D : Nat → Prop) (base : Nat) (w : World) : OwnK e D base w [] (.slice none 0 0) := ⟨[], own_none _ _ _ _, krow_nil, fun b h => by cases h⟩
theorem OwnK.slice (h : OwnK e D base w ks s) : ∃ a c, s = .slice a ks.length c := by
  obtain ⟨xs, h1, _⟩ := h
  obtain ⟨a, c, h2, _⟩ := own_sl h1
  exact ⟨a, c, h2⟩
theorem OwnK.ge (h : OwnK e D base w ks s) : ∀ k, s.ownBlock = some k → base ≤ k := by
  obtain ⟨xs, h1, _⟩ := h
  exact fun k hk => (h1.lt k hk).1
theorem OwnK.lt (h : OwnK e D base w ks s) : ∀ k, s.ownBlock = some k → k < w.heap.size := by
  obtain ⟨xs, h1, _⟩ := h
  exact fun k hk => (h1.lt k hk).2
theorem OwnK.ne (h : OwnK e D base w ks s) {b : Nat} (hb : ¬ D b) : some b ≠ s.ownBlock := by
  obtain ⟨xs, _, _, h3⟩ := h
  exact fun he => hb (h3 b he.symm)
theorem OwnK.grow (h : OwnK e D base w ks s) (g : G w w') : OwnK e D base w' ks s := by
  obtain ⟨xs, h1, h2, h3⟩ := h
  exact ⟨xs, own_grow h1 g, h2.grow g, h3⟩
theorem OwnK.keep (h : OwnK e D base w ks s) {b : Nat} (hg : w.grownBy w' (some b)) (hb : ¬ D b) : OwnK e D base w' ks s := by
  obtain ⟨xs, h1, h2, h3⟩ := h
  refine ⟨xs, own_keep h1 hg (.inr fun he => hb (h3 b he)), h2.keep hg fun k hk _ he => ?_, h3⟩
  injection he with he
  exact hb (he ▸ hk.1)
/-- As children. -/
theorem OwnK.kd (h : OwnK e D base w ks s) {D' : Nat → Prop} (hD : ∀ b, D b → D' b) : Kd w D' ks s := by
  obtain ⟨xs, h1, h2, h3⟩ := h
  exact kd_own h1 rfl (h2.mono fun b hb _ => hD b hb.1) fun b hb => hD b (h3 b hb)
theorem OwnK.append {ls : List Nd} {news : List Value} {a' : Option Addr} {c' : Nat} {xs : List Value} (h : OwnK e D base w ks s) (hx : w.ownsRow base e 9 s ks.length xs) (hX : KRow w (fun b => D b ∧ some b ≠ s.ownBlock) ks xs)
    (hn : KRow w (fun b => D b ∧ some b ≠ s.ownBlock) ls news) (hD : D w.heap.size) (ho : w'.ownsRow base e 9 (.slice a' (ks.length + ls.length) c') (ks.length + ls.length) (xs ++ news)) (hg : w.grownBy w' s.ownBlock)
    (hat : (Value.slice a' (ks.length + ls.length) c').ownBlock = s.ownBlock ∨ (Value.slice a' (ks.length + ls.length) c').ownBlock = some w.heap.size) : OwnK e D base w' (ks ++ ls) (.slice a' (ks ++ ls).length c') := by
  have hlen : (ks ++ ls).length = ks.length + ls.length := by simp
  refine ⟨xs ++ news, by rw [hlen]; exact ho, ?_, ?_⟩
  · have h1 := krow_append hX hn
    rw [hlen]
    refine krow_frame (fun b hb hlt => ⟨hb.1, ?_⟩) (fun b hb hlt => hg.block b hlt hb.2) _ _ h1
    rcases hat with he | he <;> rw [he]
    · exact hb.2
    · intro e; injection e with e; omega
  · rw [hlen]
    intro b hb
    rcases hat with he | he <;> rw [he] at hb
    · obtain ⟨_, _, _, h3⟩ := h; exact h3 b hb
    · injection hb with hb; exact hb ▸ hD
end
section
variable {P : Program} {Z : List PanicEntry → Act → World → Prop} {ops : List Oper} {cl : List Nat} {lv : List Bool} {W0 : World} {n : Nat} {K : Act → World → Prop} {k : Nat} {rest : List Oper} {σ : List Ent} {w : World} {d : Nat} {ty : TypeId} {pos : String} {after : Array Edge}
/-- append of nodes to a row of one's own. -/
theorem sr_appendK {t e base q q' : Nat} {x y : Operand} {s zv : Value} {news : List Value} {b' o' : Nat} {D : Nat → Prop} {ks ls : List Nd} (hb : (Nat.beq (clOf cl k) 2 && Nat.blt d n) = true) (ht : tyElem P t = some (e, 9, 104)) (hzv : zeroOf P e = some zv)
    (hzs : zv.cells.size = 9) (hx : Ev n σ True x s) (hO : OwnK e D base w ks s) (hy : Ev n σ True y (.slice (some ⟨b', o', none⟩) q q')) (hq : ls.length = q) (hn : RowAt w b' o' news) (hK : KRow w (fun b => D b ∧ some b ≠ s.ownBlock) ls news)
    (hlen : ks.length + ls.length ≤ 10000000) (hbase : base ≤ w.heap.size) (hD : D w.heap.size)
    (h : ∀ a' c' w', OwnK e D base w' (ks ++ ls) (.slice a' (ks ++ ls).length c') → w.grownBy w' s.ownBlock → SR P Z ops cl lv W0 n K (k + 1) rest ((d, True, .slice a' (ks ++ ls).length c') :: σ) w') :
    SR P Z ops cl lv W0 n K k (⟨some d, .call { callee := .builtin .append, args := #[x, y], argTypes := #[t, t] }, ty, pos, after, none⟩ :: rest) σ w := by
  obtain ⟨xs, h1, h2, h3⟩ := id hO
  subst hq
  have ones := krow_ones hK
  refine sr_append hb ht hzv hzs (by decide) hx h1 hy (krow_length hK) hn ones (by simp only [maxLen]; omega) (by omega) hbase fun a' c' w' ho hg hat => ?_
  have := h a' c' w' (hO.append h1 h2 hK hD ho hg hat) hg
  rwa [List.length_append] at this
end
end Go.Rk
namespace Go.Rk
open Go Go.RowKit
theorem sum_take_succ {l : List Nd} {i : Nat} (f : Nd → Nat) (h : i < l.length) : ((l.take (i + 1)).map f).sum = ((l.take i).map f).sum + f l[i] := by
  rw [take_succ_map f l i h, List.sum_append]; simp
theorem scount_ok : ∀ (t : Nd) (v : Value) (D : Nat → Prop) (w : World), Kd w D t.kids v → count t ≤ 4611686018427387904 → Ret PP fn_syntax_Count #[ndV t v] w fun r w' => r = .int .i64 (count t : Nat) ∧ G w w' := by
  refine Nd.ind fun t ih v D w hk hc => ?_
  obtain ⟨p, c, rfl, hcap, hks⟩ := hk
  have g := G.refl w
  have hlen := kids_le t
  refine ret_of_sc (m := 19) func_syntax_Count rfl rfl [(0, True, _)] (sub_cons rfl (sub_nil _)) ?_
  refine sc_seq fun K1 hK1 => ?_
  refine sc_text [1, 3] ?_
  refine sr_box rfl (ev_t rfl) rfl ?_
  intro b1 w1 N1
  have l1 := N1.ge g
  have g := g.trans (N1.g)
  have B1 := N1.blk
  refine sr_pu rfl (fun _ => rd_assign ev_c) ?_
  refine sr_sub [(1, _, _), (2, _, _)] (sub_cons rfl (sub_cons rfl (sub_nil _))) ?_
  refine sr_nil (hK1 _ _ ?_)
  refine sc_seq fun K2 hK2 => ?_
  refine sc_text [3] ?_
  refine sr_pu rfl (fun _ => rd_assign ev_c) ?_
  refine sr_nil (hK2 _ _ ?_)
  refine sc_seq fun K3 hK3 => ?_
  refine sc_seq fun K4 hK4 => ?_
  refine sc_text [3, 0, 3, 3] ?_
  refine sr_pu rfl (fun _ => rd_field fo_api_Node_4 (ev_t rfl)) ?_
  refine sr_rd rfl (rd_load one_sl_api_Node (ev_t rfl) (fun _ => B1.at_ rfl)) ?_
  refine sr_pu rfl (fun _ => rd_len el_sl_api_Node (ev_t rfl)) ?_
  refine sr_pu rfl (fun _ => rd_move ev_c) ?_
  refine sr_sub [(2, _, _), (3, _, _), (7, _, _), (8, _, _), (9, _, _)] (sub_cons rfl (sub_cons rfl (sub_cons rfl (sub_cons rfl (sub_cons rfl (sub_nil _)))))) ?_
  refine sr_nil (hK4 _ _ ?_)
  refine sc_block ?_
  refine sc_loop2 (fun (i : Nat) u1 => (i ≤ t.kids.length) ∧ G w1 u1) [(2, True, _), (7, True, _), (8, True, _)] (fun (i : Nat) => [(3, True, .int .i64 ((1 + ((t.kids.take i).map count).sum : Nat) : Int)), (9, True, .int .i64 i)]) (fun (i : Nat) => t.kids.length - i) (0) ⟨by simp, G.refl _⟩ (sub_cons rfl (sub_cons rfl (sub_cons rfl (sub_cons rfl (sub_cons rfl (sub_nil _)))))) ?_
  rintro i u1 ⟨hI1, gl1⟩
  have g := g.trans gl1
  replace B1 := B1.grow (gl1)
  refine sc_seq fun K5 hK5 => ?_
  refine sc_text [3] ?_
  refine sr_pu rfl (fun _ => rd_lt (ev_t rfl) (ev_t rfl)) ?_
  refine sr_nil (hK5 _ _ ?_)
  refine sc_sub [(2, _, _), (3, _, _), (7, _, _), (8, _, _), (9, _, _), (10, _, _)] (sub_cons rfl (sub_cons rfl (sub_cons rfl (sub_cons rfl (sub_cons rfl (sub_cons rfl (sub_nil _))))))) ?_
  refine sc_seq fun K6 hK6 => ?_
  refine sc_cond (ev_t rfl) (fun h1 => ?_) (fun h1 => ?_)
  · replace h1 : i < t.kids.length := by simp only [decide_eq_true_eq] at h1; omega
    obtain ⟨b, o, rfl, hD, xs, hR, hX⟩ := hks (by omega)
    obtain ⟨p', c', hcell, hkid⟩ := kd_at hR hX h1
    have hck := count_kid h1
    refine sc_skip (hK6 _ _ ?_)
    refine sc_sub [(2, _, _), (3, _, _), (7, _, _), (8, _, _), (9, _, _)] (sub_cons rfl (sub_cons rfl (sub_cons rfl (sub_cons rfl (sub_cons rfl (sub_nil _)))))) ?_
    refine sc_seq fun K7 hK7 => ?_
    refine sc_block ?_
    refine sc_seq fun K8 hK8 => ?_
    refine sc_text [3, 0, 1, 2] ?_
    refine sr_pu rfl (fun _ => rd_idx el_sl_api_Node (ev_t rfl) (ev_t rfl) (fun _ => by omega)) ?_
    refine sr_rd rfl (rd_loads agg_api_Node (ev_t rfl) rfl (fun _ => hcell.grow g)) ?_
    refine sr_alloc rfl ze_api_Node rfl ?_
    intro b5 w5 N5
    have x5_1 := N5.ne B1
    have l5 := N5.ge g
    try have l5_gl1 := N5.ge gl1
    have g := g.trans (N5.g)
    try have gl1 := gl1.trans (N5.g)
    replace B1 := B1.grow (N5.g)
    have B5 := N5.blk
    refine sr_store_all rfl sz_api_Node (ev_t rfl) (ev_t rfl) rfl rfl B5 rfl rfl ?_
    intro wS1 hgS1 hzS1
    clear B5
    intro B5
    replace B1 := B1.keep hgS1 (by intro h; injection h with h; first | exact x5_1 h.symm | exact x1_5 h | omega)
    have g := g_only g hgS1 (by intro k hk; injection hk with hk; omega)
    first | replace gl1 := g_only gl1 hgS1 (by intro k hk; injection hk with hk; omega) | clear gl1 | skip
    refine sr_sub [(2, _, _), (3, _, _), (5, _, _), (7, _, _), (8, _, _), (9, _, _)] (sub_cons rfl (sub_cons rfl (sub_cons rfl (sub_cons rfl (sub_cons rfl (sub_cons rfl (sub_nil _))))))) ?_
    refine sr_nil (hK8 _ _ ?_)
    refine sc_text [3, 0, 1, 3, 3] ?_
    refine sr_pu rfl (fun _ => rd_move (ev_t rfl)) ?_
    refine sr_rd rfl (rd_loads agg_api_Node (ev_t rfl) rfl (fun _ => B5.row)) ?_
    refine sr_pure rfl (rc_call go_syntax_Count ev_f (args_cons (ev_t rfl) (args_nil)) rfl) (ih _ (List.getElem_mem h1) _ _ _ (hkid.grow g) (by omega)) (fun w15 g15 => ?_)
    have g := g.trans (g15)
    try have gl1 := gl1.trans (g15)
    replace B1 := B1.grow (g15)
    replace B5 := B5.grow (g15)
    refine sr_pu rfl (fun _ => rd_add (ev_t rfl) (ev_t rfl) (fun _ => by omega)) ?_
    refine sr_pu rfl (fun _ => rd_assign (ev_t rfl)) ?_
    refine sr_sub [(2, _, _), (3, _, _), (7, _, _), (8, _, _), (9, _, _)] (sub_cons rfl (sub_cons rfl (sub_cons rfl (sub_cons rfl (sub_cons rfl (sub_nil _)))))) ?_
    refine sr_nil (hK7 _ _ ?_)
    refine sc_text [3, 3] ?_
    refine sr_pu rfl (fun _ => rd_add (ev_t rfl) ev_c (fun _ => by omega)) ?_
    refine sr_pu rfl (fun _ => rd_move (ev_t rfl)) ?_
    refine sr_sub [(3, _, _), (9, _, _), (2, _, _), (7, _, _), (8, _, _)] (sub_cons rfl (sub_cons rfl (sub_cons rfl (sub_cons rfl (sub_cons rfl (sub_nil _)))))) ?_
    refine sr_nil (fun a ha => ?_)
    have e : ((1 + ((t.kids.take i).map count).sum : Nat) : Int) + (count t.kids[i] : Nat) = ((1 + ((t.kids.take (i + 1)).map count).sum : Nat) : Int) := by rw [sum_take_succ count h1]; omega
    rw [e] at ha
    exact ⟨i + 1, ha, ⟨h1, gl1⟩, by omega⟩
  replace h1 : i = t.kids.length := by simp only [decide_eq_false_iff_not] at h1; omega
  refine sc_exit rfl (hK3 _ _ ?_)
  refine sc_sub [(2, _, _), (3, _, _)] (sub_cons rfl (sub_cons rfl (sub_nil _))) ?_
  refine sc_seq fun K9 hK9 => ?_
  refine sc_text [3, 3] ?_
  refine sr_pu rfl (fun _ => rd_move (ev_t rfl)) ?_
  refine sr_pu rfl (fun _ => rd_assign (ev_t rfl)) ?_
  refine sr_nil (hK9 _ _ ?_)
  refine sc_ret (t_ret1 rfl rfl ?_)
  refine ⟨?_, g⟩
  rw [h1, List.take_length, ← count_eq]
end Go.Rk
namespace Go.Rk
open Go Go.RowKit
theorem take_step {α : Type} {l : List α} {i : Nat} (h : i < l.length) : l.take (i + 1) = l.take i ++ [l[i]] := by
  rw [List.take_add_one, List.getElem?_eq_getElem h]; rfl
/-- A tree comes back in new memory. -/
def RetNd (t : Nd) (base : Nat) (r : Value) (w : World) : Prop := ∃ p c, r = ndV t (.slice p t.kids.length c) ∧ Kd w (fun b => base ≤ b) t.kids (.slice p t.kids.length c)
def listN (t : Nd) : List Nd := para (fun t l => t :: l.flatten) t
theorem listN_eq (t : Nd) : listN t = t :: t.kids.flatMap listN := by rw [listN, para_eq, List.flatMap_def]; rfl
theorem listN_length : ∀ t, (listN t).length = count t := by
  refine Nd.ind fun t ih => ?_
  rw [listN_eq, count_eq, List.length_cons, List.length_flatMap, Nat.add_comm]
  congr 2
  exact List.map_congr_left ih
theorem flatMap_take_succ {l : List Nd} {i : Nat} (h : i < l.length) : (l.take (i + 1)).flatMap listN = (l.take i).flatMap listN ++ listN l[i] := by rw [take_step h, List.flatMap_append]; simp only [List.flatMap_cons, List.flatMap_nil, List.append_nil]
end Go.Rk
namespace Go.Rk
open Go Go.RowKit
def typK (k : Int) : Bool := anyK [7, 8] k
def expK (k : Int) : Bool := anyK [28, 29, 30, 31, 32, 33, 35, 36, 37, 27, 34, 24, 25, 26, 38] k
def stK (k : Int) : Bool := anyK [6, 10, 11, 12, 13, 14, 15, 16, 17, 21, 18, 19, 20, 22] k
def memK (l : List Int) (k : Int) : Bool := decide (k ∈ l)
theorem synname_ok (s : List UInt8) (w : World) (hL : Laid w) (hb3 : 4 ≤ w.heap.size) : Ret PP fn_syntax_name #[Str s] w fun v w' => v = .bool (nameB s) ∧ G w w' := by
  have g := G.refl w
  refine ret_of_sc (m := 34) func_syntax_name rfl rfl [(0, True, _)] (sub_cons rfl (sub_nil _)) ?_
  refine sc_seq fun K1 hK1 => ?_
  refine sc_text [3] ?_
  refine sr_pu rfl (fun _ => rd_assign ev_c) ?_
  refine sr_nil (hK1 _ _ ?_)
  refine sc_seq fun K2 hK2 => ?_
  refine sc_text [3, 1, 3, 3, 3, 3, 3, 3, 3] ?_
  refine sr_pu rfl (fun _ => rd_move (ev_t rfl)) ?_
  refine sr_call rfl (rc_call go_scan_Scan ev_f (args_cons (ev_t rfl) (args_nil)) rfl) (scan_ok s _ (hL.grow g) (by have := g.size; omega)) ?_
  rintro v8 w8 ⟨l, rfl, hT, g8⟩
  obtain ⟨a, c, rfl, hr⟩ := toks_slice hT
  refine ⟨fun _ => g8, ?_⟩
  have g := g.trans g8
  refine sr_pu rfl (fun _ => rd_move (ev_t rfl)) ?_
  refine sr_pu rfl (fun _ => rd_extract (ev_t rfl) rfl) ?_
  refine sr_pu rfl (fun _ => rd_extract (ev_t rfl) rfl) ?_
  refine sr_pu rfl (fun _ => rd_extract (ev_t rfl) rfl) ?_
  refine sr_pu rfl (fun _ => rd_assign (ev_t rfl)) ?_
  refine sr_pu rfl (fun _ => rd_assign (ev_t rfl)) ?_
  refine sr_pu rfl (fun _ => rd_assign (ev_t rfl)) ?_
  refine sr_sub [(0, _, _), (2, _, _), (3, _, _), (5, _, _)] (sub_cons rfl (sub_cons rfl (sub_cons rfl (sub_cons rfl (sub_nil _))))) ?_
  refine sr_nil (hK2 _ _ ?_)
  refine sc_seq fun K3 hK3 => ?_
  refine sc_text [3, 3, 3, 3, 3, 3, 3, 3, 3, 3, 3, 0, 3, 3, 3, 3, 3, 3, 0, 3, 3, 3, 3] ?_
  refine sr_pu rfl (fun _ => rd_move (ev_t rfl)) ?_
  refine sr_pu rfl (fun _ => rd_eq (ev_t rfl) ev_c) ?_
  refine sr_pu rfl (fun _ => rd_move (ev_t rfl)) ?_
  refine sr_pug rfl rfl rfl (fun _ => rd_move (ev_t rfl)) ?_
  refine sr_pug rfl rfl rfl (fun _ => rd_len el_sl_api_Token (ev_u rfl id)) ?_
  refine sr_pug rfl rfl rfl (fun _ => rd_eq (ev_u rfl id) ev_c) ?_
  refine sr_pu rfl (fun _ => rd_pick_and (ev_t rfl) (ev_u rfl id)) ?_
  refine sr_pu rfl (fun _ => rd_move (ev_t rfl)) ?_
  refine sr_pug rfl rfl rfl (fun _ => rd_move (ev_t rfl)) ?_
  refine sr_pug rfl rfl rfl (fun _ => rd_idxq el_sl_api_Token (ev_u rfl id) ev_c (fun hc => by have := of_decide_eq_true (Bool.and_eq_true_iff.1 hc.2).2; omega) (fun hc => (hr (by have := of_decide_eq_true (Bool.and_eq_true_iff.1 hc.2).2; omega)).1)) ?_
  refine sr_pug rfl rfl rfl (fun _ => rd_field fo_api_Token_0 (ev_u rfl id)) ?_
  refine sr_rdg rfl rfl rfl (rd_load one_int (ev_u rfl id) (fun hc => (hr (by have := of_decide_eq_true (Bool.and_eq_true_iff.1 hc.2).2; omega)).2 0 _ rfl)) ?_
  refine sr_pug rfl rfl rfl (fun _ => rd_eq (ev_u rfl id) ev_c) ?_
  refine sr_pu rfl (fun _ => rd_pick_and (ev_t rfl) (ev_u rfl id)) ?_
  refine sr_pu rfl (fun _ => rd_move (ev_t rfl)) ?_
  refine sr_pug rfl rfl rfl (fun _ => rd_move (ev_t rfl)) ?_
  refine sr_pug rfl rfl rfl (fun _ => rd_idxq el_sl_api_Token (ev_u rfl id) ev_c (fun hc => by have := of_decide_eq_true (Bool.and_eq_true_iff.1 (Bool.and_eq_true_iff.1 hc.2).1).2; omega) (fun hc => (hr (by have := of_decide_eq_true (Bool.and_eq_true_iff.1 (Bool.and_eq_true_iff.1 hc.2).1).2; omega)).1)) ?_
  refine sr_pug rfl rfl rfl (fun _ => rd_field fo_api_Token_1 (ev_u rfl id)) ?_
  refine sr_rdg rfl rfl rfl (rd_load one_string (ev_u rfl id) (fun hc => (hr (by have := of_decide_eq_true (Bool.and_eq_true_iff.1 (Bool.and_eq_true_iff.1 hc.2).1).2; omega)).2 1 _ rfl)) ?_
  refine sr_pug rfl rfl rfl (fun _ => rd_move (ev_t rfl)) ?_
  refine sr_pug rfl rfl rfl (fun _ => rd_seq (ev_u rfl id) (ev_u rfl id)) ?_
  refine sr_pu rfl (fun _ => rd_pick_and (ev_t rfl) (ev_u rfl id)) ?_
  refine sr_pu rfl (fun _ => rd_assign (ev_t rfl)) ?_
  refine sr_sub [(2, _, _)] (sub_cons rfl (sub_nil _)) ?_
  refine sr_nil (hK3 _ _ ?_)
  refine sc_ret (t_ret1 rfl rfl ?_)
  refine ⟨congrArg Value.bool ?_, g⟩
  rw [← nameP_eq]; rfl
theorem typed_ok (k : Int) (w : World) : Ret PP fn_syntax_typed #[.int .i64 k] w fun v w' => v = .bool (typK k) ∧ G w w' := by
  have g := G.refl w
  refine ret_of_sc (m := 9) func_syntax_typed rfl rfl [(0, True, _)] (sub_cons rfl (sub_nil _)) ?_
  refine sc_seq fun K1 hK1 => ?_
  refine sc_text [3] ?_
  refine sr_pu rfl (fun _ => rd_assign ev_c) ?_
  refine sr_nil (hK1 _ _ ?_)
  refine sc_seq fun K2 hK2 => ?_
  refine sc_text [3, 3, 3, 3, 3, 3, 3] ?_
  refine sr_pu rfl (fun _ => rd_move (ev_t rfl)) ?_
  refine sr_pu rfl (fun _ => rd_eq (ev_t rfl) ev_c) ?_
  refine sr_pu rfl (fun _ => rd_move (ev_t rfl)) ?_
  refine sr_pug rfl rfl rfl (fun _ => rd_move (ev_t rfl)) ?_
  refine sr_pug rfl rfl rfl (fun _ => rd_eq (ev_u rfl id) ev_c) ?_
  refine sr_pu rfl (fun _ => rd_pick_or (ev_t rfl) (ev_u rfl id)) ?_
  refine sr_pu rfl (fun _ => rd_assign (ev_t rfl)) ?_
  refine sr_sub [(2, _, _)] (sub_cons rfl (sub_nil _)) ?_
  refine sr_nil (hK2 _ _ ?_)
  refine sc_ret (t_ret1 rfl rfl ?_)
  exact ⟨rfl, g⟩
theorem expression_ok (k : Int) (w : World) : Ret PP fn_syntax_expression #[.int .i64 k] w fun v w' => v = .bool (expK k) ∧ G w w' := by
  have g := G.refl w
  refine ret_of_sc (m := 20) func_syntax_expression rfl rfl [(0, True, _)] (sub_cons rfl (sub_nil _)) ?_
  refine sc_seq fun K1 hK1 => ?_
  refine sc_text [3] ?_
  refine sr_pu rfl (fun _ => rd_assign ev_c) ?_
  refine sr_nil (hK1 _ _ ?_)
  refine sc_seq fun K2 hK2 => ?_
  refine sc_seq fun K3 hK3 => ?_
  refine sc_text [3] ?_
  refine sr_pu rfl (fun _ => rd_move (ev_t rfl)) ?_
  refine sr_sub [(2, _, _), (3, _, _)] (sub_cons rfl (sub_cons rfl (sub_nil _))) ?_
  refine sr_nil (hK3 _ _ ?_)
  refine sc_block ?_
  refine sc_seq fun K4 hK4 => ?_
  refine sc_seq fun K5 hK5 => ?_
  refine sc_text [3, 3] ?_
  refine sr_pu rfl (fun _ => rd_eq (ev_t rfl) ev_c) ?_
  refine sr_pu rfl (fun _ => rd_assign (ev_t rfl)) ?_
  refine sr_sub [(2, _, _), (3, _, _), (4, _, _)] (sub_cons rfl (sub_cons rfl (sub_cons rfl (sub_nil _)))) ?_
  refine sr_nil (hK5 _ _ ?_)
  refine' sc_or [(2, _, _)] (sub_cons rfl (sub_cons rfl (sub_nil _))) rfl (fun hb1 => ?y1) (hK4 _ _ ?n1)
  case y1 =>
   refine sc_seq fun K6 hK6 => ?_
   refine sc_text [3, 3] ?_
   refine sr_pu rfl (fun _ => rd_eq (ev_t rfl) ev_c) ?_
   refine sr_pu rfl (fun _ => rd_assign (ev_t rfl)) ?_
   refine sr_sub [(2, _, _), (3, _, _), (4, _, _)] (sub_cons rfl (sub_cons rfl (sub_cons rfl (sub_nil _)))) ?_
   refine sr_nil (hK6 _ _ ?_)
   refine' sc_or [(2, _, _)] (sub_cons rfl (sub_cons rfl (sub_nil _))) rfl (fun hb2 => ?y2) (fun a ha => ⟨ha, rfl⟩)
   case y2 =>
    refine sc_seq fun K7 hK7 => ?_
    refine sc_text [3, 3] ?_
    refine sr_pu rfl (fun _ => rd_eq (ev_t rfl) ev_c) ?_
    refine sr_pu rfl (fun _ => rd_assign (ev_t rfl)) ?_
    refine sr_sub [(2, _, _), (3, _, _), (4, _, _)] (sub_cons rfl (sub_cons rfl (sub_cons rfl (sub_nil _)))) ?_
    refine sr_nil (hK7 _ _ ?_)
    refine' sc_or [(2, _, _)] (sub_cons rfl (sub_cons rfl (sub_nil _))) rfl (fun hb3 => ?y3) (fun a ha => ⟨ha, rfl⟩)
    case y3 =>
     refine sc_seq fun K8 hK8 => ?_
     refine sc_text [3, 3] ?_
     refine sr_pu rfl (fun _ => rd_eq (ev_t rfl) ev_c) ?_
     refine sr_pu rfl (fun _ => rd_assign (ev_t rfl)) ?_
     refine sr_sub [(2, _, _), (3, _, _), (4, _, _)] (sub_cons rfl (sub_cons rfl (sub_cons rfl (sub_nil _)))) ?_
     refine sr_nil (hK8 _ _ ?_)
     refine' sc_or [(2, _, _)] (sub_cons rfl (sub_cons rfl (sub_nil _))) rfl (fun hb4 => ?y4) (fun a ha => ⟨ha, rfl⟩)
     case y4 =>
      refine sc_seq fun K9 hK9 => ?_
      refine sc_text [3, 3] ?_
      refine sr_pu rfl (fun _ => rd_eq (ev_t rfl) ev_c) ?_
      refine sr_pu rfl (fun _ => rd_assign (ev_t rfl)) ?_
      refine sr_sub [(2, _, _), (3, _, _), (4, _, _)] (sub_cons rfl (sub_cons rfl (sub_cons rfl (sub_nil _)))) ?_
      refine sr_nil (hK9 _ _ ?_)
      refine' sc_or [(2, _, _)] (sub_cons rfl (sub_cons rfl (sub_nil _))) rfl (fun hb5 => ?y5) (fun a ha => ⟨ha, rfl⟩)
      case y5 =>
       refine sc_seq fun K10 hK10 => ?_
       refine sc_text [3, 3] ?_
       refine sr_pu rfl (fun _ => rd_eq (ev_t rfl) ev_c) ?_
       refine sr_pu rfl (fun _ => rd_assign (ev_t rfl)) ?_
       refine sr_sub [(2, _, _), (3, _, _), (4, _, _)] (sub_cons rfl (sub_cons rfl (sub_cons rfl (sub_nil _)))) ?_
       refine sr_nil (hK10 _ _ ?_)
       refine' sc_or [(2, _, _)] (sub_cons rfl (sub_cons rfl (sub_nil _))) rfl (fun hb6 => ?y6) (fun a ha => ⟨ha, rfl⟩)
       case y6 =>
        refine sc_seq fun K11 hK11 => ?_
        refine sc_text [3, 3] ?_
        refine sr_pu rfl (fun _ => rd_eq (ev_t rfl) ev_c) ?_
        refine sr_pu rfl (fun _ => rd_assign (ev_t rfl)) ?_
        refine sr_sub [(2, _, _), (3, _, _), (4, _, _)] (sub_cons rfl (sub_cons rfl (sub_cons rfl (sub_nil _)))) ?_
        refine sr_nil (hK11 _ _ ?_)
        refine' sc_or [(2, _, _)] (sub_cons rfl (sub_cons rfl (sub_nil _))) rfl (fun hb7 => ?y7) (fun a ha => ⟨ha, rfl⟩)
        case y7 =>
         refine sc_seq fun K12 hK12 => ?_
         refine sc_text [3, 3] ?_
         refine sr_pu rfl (fun _ => rd_eq (ev_t rfl) ev_c) ?_
         refine sr_pu rfl (fun _ => rd_assign (ev_t rfl)) ?_
         refine sr_sub [(2, _, _), (3, _, _), (4, _, _)] (sub_cons rfl (sub_cons rfl (sub_cons rfl (sub_nil _)))) ?_
         refine sr_nil (hK12 _ _ ?_)
         refine' sc_or [(2, _, _)] (sub_cons rfl (sub_cons rfl (sub_nil _))) rfl (fun hb8 => ?y8) (fun a ha => ⟨ha, rfl⟩)
         case y8 =>
          refine sc_seq fun K13 hK13 => ?_
          refine sc_text [3, 3] ?_
          refine sr_pu rfl (fun _ => rd_eq (ev_t rfl) ev_c) ?_
          refine sr_pu rfl (fun _ => rd_assign (ev_t rfl)) ?_
          refine sr_sub [(2, _, _), (3, _, _), (4, _, _)] (sub_cons rfl (sub_cons rfl (sub_cons rfl (sub_nil _)))) ?_
          refine sr_nil (hK13 _ _ ?_)
          refine' sc_or [(2, _, _)] (sub_cons rfl (sub_cons rfl (sub_nil _))) rfl (fun hb9 => ?y9) (fun a ha => ⟨ha, rfl⟩)
          case y9 =>
           refine sc_seq fun K14 hK14 => ?_
           refine sc_text [3, 3] ?_
           refine sr_pu rfl (fun _ => rd_eq (ev_t rfl) ev_c) ?_
           refine sr_pu rfl (fun _ => rd_assign (ev_t rfl)) ?_
           refine sr_sub [(2, _, _), (3, _, _), (4, _, _)] (sub_cons rfl (sub_cons rfl (sub_cons rfl (sub_nil _)))) ?_
           refine sr_nil (hK14 _ _ ?_)
           refine' sc_or [(2, _, _)] (sub_cons rfl (sub_cons rfl (sub_nil _))) rfl (fun hb10 => ?y10) (fun a ha => ⟨ha, rfl⟩)
           case y10 =>
            refine sc_seq fun K15 hK15 => ?_
            refine sc_text [3, 3] ?_
            refine sr_pu rfl (fun _ => rd_eq (ev_t rfl) ev_c) ?_
            refine sr_pu rfl (fun _ => rd_assign (ev_t rfl)) ?_
            refine sr_sub [(2, _, _), (3, _, _), (4, _, _)] (sub_cons rfl (sub_cons rfl (sub_cons rfl (sub_nil _)))) ?_
            refine sr_nil (hK15 _ _ ?_)
            refine' sc_or [(2, _, _)] (sub_cons rfl (sub_cons rfl (sub_nil _))) rfl (fun hb11 => ?y11) (fun a ha => ⟨ha, rfl⟩)
            case y11 =>
             refine sc_seq fun K16 hK16 => ?_
             refine sc_text [3, 3] ?_
             refine sr_pu rfl (fun _ => rd_eq (ev_t rfl) ev_c) ?_
             refine sr_pu rfl (fun _ => rd_assign (ev_t rfl)) ?_
             refine sr_sub [(2, _, _), (3, _, _), (4, _, _)] (sub_cons rfl (sub_cons rfl (sub_cons rfl (sub_nil _)))) ?_
             refine sr_nil (hK16 _ _ ?_)
             refine' sc_or [(2, _, _)] (sub_cons rfl (sub_cons rfl (sub_nil _))) rfl (fun hb12 => ?y12) (fun a ha => ⟨ha, rfl⟩)
             case y12 =>
              refine sc_seq fun K17 hK17 => ?_
              refine sc_text [3, 3] ?_
              refine sr_pu rfl (fun _ => rd_eq (ev_t rfl) ev_c) ?_
              refine sr_pu rfl (fun _ => rd_assign (ev_t rfl)) ?_
              refine sr_sub [(2, _, _), (3, _, _), (4, _, _)] (sub_cons rfl (sub_cons rfl (sub_cons rfl (sub_nil _)))) ?_
              refine sr_nil (hK17 _ _ ?_)
              refine' sc_or [(2, _, _)] (sub_cons rfl (sub_cons rfl (sub_nil _))) rfl (fun hb13 => ?y13) (fun a ha => ⟨ha, rfl⟩)
              case y13 =>
               refine sc_seq fun K18 hK18 => ?_
               refine sc_text [3, 3] ?_
               refine sr_pu rfl (fun _ => rd_eq (ev_t rfl) ev_c) ?_
               refine sr_pu rfl (fun _ => rd_assign (ev_t rfl)) ?_
               refine sr_sub [(2, _, _), (3, _, _), (4, _, _)] (sub_cons rfl (sub_cons rfl (sub_cons rfl (sub_nil _)))) ?_
               refine sr_nil (hK18 _ _ ?_)
               refine' sc_or [(2, _, _)] (sub_cons rfl (sub_cons rfl (sub_nil _))) rfl (fun hb14 => ?y14) (fun a ha => ⟨ha, rfl⟩)
               case y14 =>
                refine sc_text [3, 3] ?_
                refine sr_pu rfl (fun _ => rd_eq (ev_t rfl) ev_c) ?_
                refine sr_pu rfl (fun _ => rd_assign (ev_t rfl)) ?_
                refine sr_sub [(4, _, _), (2, _, _)] (sub_cons rfl (sub_cons rfl (sub_nil _))) ?_
                exact sr_nil (fun a ha => ⟨ha, rfl⟩)
  case n1 =>
   refine sc_cond (ev_t rfl) (fun h15 => ?_) (fun h15 => ?_)
   · (try simp only [bsimp] at h15)
     refine sc_seq fun K19 hK19 => ?_
     refine sc_text [3] ?_
     refine sr_pu rfl (fun _ => rd_assign ev_c) ?_
     refine sr_sub [(2, _, _)] (sub_cons rfl (sub_nil _)) ?_
     refine sr_nil (hK19 _ _ ?_)
     refine sc_ret (t_ret1 rfl rfl ?_)
     refine ⟨congrArg Value.bool ?_, g⟩
     simp only [expK, anyK]; exact (h15).symm
   (try simp only [bsimp] at h15)
   refine sc_skip (hK2 _ _ ?_)
   refine sc_sub [(2, _, _)] (sub_cons rfl (sub_nil _)) ?_
   refine sc_seq fun K20 hK20 => ?_
   refine sc_text [3] ?_
   refine sr_pu rfl (fun _ => rd_assign ev_c) ?_
   refine sr_nil (hK20 _ _ ?_)
   refine sc_ret (t_ret1 rfl rfl ?_)
   refine ⟨congrArg Value.bool ?_, g⟩
   simp only [expK, anyK]; exact (h15).symm
theorem statement_ok (k : Int) (w : World) : Ret PP fn_syntax_statement #[.int .i64 k] w fun v w' => v = .bool (stK k) ∧ G w w' := by
  have g := G.refl w
  refine ret_of_sc (m := 19) func_syntax_statement rfl rfl [(0, True, _)] (sub_cons rfl (sub_nil _)) ?_
  refine sc_seq fun K1 hK1 => ?_
  refine sc_text [3] ?_
  refine sr_pu rfl (fun _ => rd_assign ev_c) ?_
  refine sr_nil (hK1 _ _ ?_)
  refine sc_seq fun K2 hK2 => ?_
  refine sc_seq fun K3 hK3 => ?_
  refine sc_text [3] ?_
  refine sr_pu rfl (fun _ => rd_move (ev_t rfl)) ?_
  refine sr_sub [(2, _, _), (3, _, _)] (sub_cons rfl (sub_cons rfl (sub_nil _))) ?_
  refine sr_nil (hK3 _ _ ?_)
  refine sc_block ?_
  refine sc_seq fun K4 hK4 => ?_
  refine sc_seq fun K5 hK5 => ?_
  refine sc_text [3, 3] ?_
  refine sr_pu rfl (fun _ => rd_eq (ev_t rfl) ev_c) ?_
  refine sr_pu rfl (fun _ => rd_assign (ev_t rfl)) ?_
  refine sr_sub [(2, _, _), (3, _, _), (4, _, _)] (sub_cons rfl (sub_cons rfl (sub_cons rfl (sub_nil _)))) ?_
  refine sr_nil (hK5 _ _ ?_)
  refine' sc_or [(2, _, _)] (sub_cons rfl (sub_cons rfl (sub_nil _))) rfl (fun hb1 => ?y1) (hK4 _ _ ?n1)
  case y1 =>
   refine sc_seq fun K6 hK6 => ?_
   refine sc_text [3, 3] ?_
   refine sr_pu rfl (fun _ => rd_eq (ev_t rfl) ev_c) ?_
   refine sr_pu rfl (fun _ => rd_assign (ev_t rfl)) ?_
   refine sr_sub [(2, _, _), (3, _, _), (4, _, _)] (sub_cons rfl (sub_cons rfl (sub_cons rfl (sub_nil _)))) ?_
   refine sr_nil (hK6 _ _ ?_)
   refine' sc_or [(2, _, _)] (sub_cons rfl (sub_cons rfl (sub_nil _))) rfl (fun hb2 => ?y2) (fun a ha => ⟨ha, rfl⟩)
   case y2 =>
    refine sc_seq fun K7 hK7 => ?_
    refine sc_text [3, 3] ?_
    refine sr_pu rfl (fun _ => rd_eq (ev_t rfl) ev_c) ?_
    refine sr_pu rfl (fun _ => rd_assign (ev_t rfl)) ?_
    refine sr_sub [(2, _, _), (3, _, _), (4, _, _)] (sub_cons rfl (sub_cons rfl (sub_cons rfl (sub_nil _)))) ?_
    refine sr_nil (hK7 _ _ ?_)
    refine' sc_or [(2, _, _)] (sub_cons rfl (sub_cons rfl (sub_nil _))) rfl (fun hb3 => ?y3) (fun a ha => ⟨ha, rfl⟩)
    case y3 =>
     refine sc_seq fun K8 hK8 => ?_
     refine sc_text [3, 3] ?_
     refine sr_pu rfl (fun _ => rd_eq (ev_t rfl) ev_c) ?_
     refine sr_pu rfl (fun _ => rd_assign (ev_t rfl)) ?_
     refine sr_sub [(2, _, _), (3, _, _), (4, _, _)] (sub_cons rfl (sub_cons rfl (sub_cons rfl (sub_nil _)))) ?_
     refine sr_nil (hK8 _ _ ?_)
     refine' sc_or [(2, _, _)] (sub_cons rfl (sub_cons rfl (sub_nil _))) rfl (fun hb4 => ?y4) (fun a ha => ⟨ha, rfl⟩)
     case y4 =>
      refine sc_seq fun K9 hK9 => ?_
      refine sc_text [3, 3] ?_
      refine sr_pu rfl (fun _ => rd_eq (ev_t rfl) ev_c) ?_
      refine sr_pu rfl (fun _ => rd_assign (ev_t rfl)) ?_
      refine sr_sub [(2, _, _), (3, _, _), (4, _, _)] (sub_cons rfl (sub_cons rfl (sub_cons rfl (sub_nil _)))) ?_
      refine sr_nil (hK9 _ _ ?_)
      refine' sc_or [(2, _, _)] (sub_cons rfl (sub_cons rfl (sub_nil _))) rfl (fun hb5 => ?y5) (fun a ha => ⟨ha, rfl⟩)
      case y5 =>
       refine sc_seq fun K10 hK10 => ?_
       refine sc_text [3, 3] ?_
       refine sr_pu rfl (fun _ => rd_eq (ev_t rfl) ev_c) ?_
       refine sr_pu rfl (fun _ => rd_assign (ev_t rfl)) ?_
       refine sr_sub [(2, _, _), (3, _, _), (4, _, _)] (sub_cons rfl (sub_cons rfl (sub_cons rfl (sub_nil _)))) ?_
       refine sr_nil (hK10 _ _ ?_)
       refine' sc_or [(2, _, _)] (sub_cons rfl (sub_cons rfl (sub_nil _))) rfl (fun hb6 => ?y6) (fun a ha => ⟨ha, rfl⟩)
       case y6 =>
        refine sc_seq fun K11 hK11 => ?_
        refine sc_text [3, 3] ?_
        refine sr_pu rfl (fun _ => rd_eq (ev_t rfl) ev_c) ?_
        refine sr_pu rfl (fun _ => rd_assign (ev_t rfl)) ?_
        refine sr_sub [(2, _, _), (3, _, _), (4, _, _)] (sub_cons rfl (sub_cons rfl (sub_cons rfl (sub_nil _)))) ?_
        refine sr_nil (hK11 _ _ ?_)
        refine' sc_or [(2, _, _)] (sub_cons rfl (sub_cons rfl (sub_nil _))) rfl (fun hb7 => ?y7) (fun a ha => ⟨ha, rfl⟩)
        case y7 =>
         refine sc_seq fun K12 hK12 => ?_
         refine sc_text [3, 3] ?_
         refine sr_pu rfl (fun _ => rd_eq (ev_t rfl) ev_c) ?_
         refine sr_pu rfl (fun _ => rd_assign (ev_t rfl)) ?_
         refine sr_sub [(2, _, _), (3, _, _), (4, _, _)] (sub_cons rfl (sub_cons rfl (sub_cons rfl (sub_nil _)))) ?_
         refine sr_nil (hK12 _ _ ?_)
         refine' sc_or [(2, _, _)] (sub_cons rfl (sub_cons rfl (sub_nil _))) rfl (fun hb8 => ?y8) (fun a ha => ⟨ha, rfl⟩)
         case y8 =>
          refine sc_seq fun K13 hK13 => ?_
          refine sc_text [3, 3] ?_
          refine sr_pu rfl (fun _ => rd_eq (ev_t rfl) ev_c) ?_
          refine sr_pu rfl (fun _ => rd_assign (ev_t rfl)) ?_
          refine sr_sub [(2, _, _), (3, _, _), (4, _, _)] (sub_cons rfl (sub_cons rfl (sub_cons rfl (sub_nil _)))) ?_
          refine sr_nil (hK13 _ _ ?_)
          refine' sc_or [(2, _, _)] (sub_cons rfl (sub_cons rfl (sub_nil _))) rfl (fun hb9 => ?y9) (fun a ha => ⟨ha, rfl⟩)
          case y9 =>
           refine sc_seq fun K14 hK14 => ?_
           refine sc_text [3, 3] ?_
           refine sr_pu rfl (fun _ => rd_eq (ev_t rfl) ev_c) ?_
           refine sr_pu rfl (fun _ => rd_assign (ev_t rfl)) ?_
           refine sr_sub [(2, _, _), (3, _, _), (4, _, _)] (sub_cons rfl (sub_cons rfl (sub_cons rfl (sub_nil _)))) ?_
           refine sr_nil (hK14 _ _ ?_)
           refine' sc_or [(2, _, _)] (sub_cons rfl (sub_cons rfl (sub_nil _))) rfl (fun hb10 => ?y10) (fun a ha => ⟨ha, rfl⟩)
           case y10 =>
            refine sc_seq fun K15 hK15 => ?_
            refine sc_text [3, 3] ?_
            refine sr_pu rfl (fun _ => rd_eq (ev_t rfl) ev_c) ?_
            refine sr_pu rfl (fun _ => rd_assign (ev_t rfl)) ?_
            refine sr_sub [(2, _, _), (3, _, _), (4, _, _)] (sub_cons rfl (sub_cons rfl (sub_cons rfl (sub_nil _)))) ?_
            refine sr_nil (hK15 _ _ ?_)
            refine' sc_or [(2, _, _)] (sub_cons rfl (sub_cons rfl (sub_nil _))) rfl (fun hb11 => ?y11) (fun a ha => ⟨ha, rfl⟩)
            case y11 =>
             refine sc_seq fun K16 hK16 => ?_
             refine sc_text [3, 3] ?_
             refine sr_pu rfl (fun _ => rd_eq (ev_t rfl) ev_c) ?_
             refine sr_pu rfl (fun _ => rd_assign (ev_t rfl)) ?_
             refine sr_sub [(2, _, _), (3, _, _), (4, _, _)] (sub_cons rfl (sub_cons rfl (sub_cons rfl (sub_nil _)))) ?_
             refine sr_nil (hK16 _ _ ?_)
             refine' sc_or [(2, _, _)] (sub_cons rfl (sub_cons rfl (sub_nil _))) rfl (fun hb12 => ?y12) (fun a ha => ⟨ha, rfl⟩)
             case y12 =>
              refine sc_seq fun K17 hK17 => ?_
              refine sc_text [3, 3] ?_
              refine sr_pu rfl (fun _ => rd_eq (ev_t rfl) ev_c) ?_
              refine sr_pu rfl (fun _ => rd_assign (ev_t rfl)) ?_
              refine sr_sub [(2, _, _), (3, _, _), (4, _, _)] (sub_cons rfl (sub_cons rfl (sub_cons rfl (sub_nil _)))) ?_
              refine sr_nil (hK17 _ _ ?_)
              refine' sc_or [(2, _, _)] (sub_cons rfl (sub_cons rfl (sub_nil _))) rfl (fun hb13 => ?y13) (fun a ha => ⟨ha, rfl⟩)
              case y13 =>
               refine sc_text [3, 3] ?_
               refine sr_pu rfl (fun _ => rd_eq (ev_t rfl) ev_c) ?_
               refine sr_pu rfl (fun _ => rd_assign (ev_t rfl)) ?_
               refine sr_sub [(4, _, _), (2, _, _)] (sub_cons rfl (sub_cons rfl (sub_nil _))) ?_
               exact sr_nil (fun a ha => ⟨ha, rfl⟩)
  case n1 =>
   refine sc_cond (ev_t rfl) (fun h14 => ?_) (fun h14 => ?_)
   · (try simp only [bsimp] at h14)
     refine sc_seq fun K18 hK18 => ?_
     refine sc_text [3] ?_
     refine sr_pu rfl (fun _ => rd_assign ev_c) ?_
     refine sr_sub [(2, _, _)] (sub_cons rfl (sub_nil _)) ?_
     refine sr_nil (hK18 _ _ ?_)
     refine sc_ret (t_ret1 rfl rfl ?_)
     refine ⟨congrArg Value.bool ?_, g⟩
     simp only [stK, anyK]; exact (h14).symm
   (try simp only [bsimp] at h14)
   refine sc_skip (hK2 _ _ ?_)
   refine sc_sub [(2, _, _)] (sub_cons rfl (sub_nil _)) ?_
   refine sc_seq fun K19 hK19 => ?_
   refine sc_text [3] ?_
   refine sr_pu rfl (fun _ => rd_assign ev_c) ?_
   refine sr_nil (hK19 _ _ ?_)
   refine sc_ret (t_ret1 rfl rfl ?_)
   refine ⟨congrArg Value.bool ?_, g⟩
   simp only [stK, anyK]; exact (h14).symm
theorem among1_ok (l : List Int) (b : Nat) (p : Option Addr) (c : Nat) (k : Int) (w : World) (hB : Blk w b ty_sl_int [.slice p l.length c]) (hp : 0 < l.length → ∃ b o, p = some ⟨b, o, none⟩ ∧ RowAt w b o (l.map (Value.int .i64))) (hl : l.length ≤ 1000) :
    Ret PP fn_syntax_among_1 #[.int .i64 k, .pointer (some ⟨b, 0, none⟩)] w fun v w' => v = .bool (memK l k) ∧ G w w' := by
  have g := G.refl w
  refine ret_of_sc (m := 16) func_syntax_among_1 rfl rfl [(0, True, _), (1, True, _)] (sub_cons rfl (sub_cons rfl (sub_nil _))) ?_
  refine sc_seq fun K1 hK1 => ?_
  refine sc_text [3] ?_
  refine sr_pu rfl (fun _ => rd_assign ev_c) ?_
  refine sr_nil (hK1 _ _ ?_)
  refine sc_seq fun K2 hK2 => ?_
  refine sc_seq fun K3 hK3 => ?_
  refine sc_text [0, 3, 3] ?_
  refine sr_rd rfl (rd_load one_sl_int (ev_t rfl) (fun _ => (hB.grow g).at_ rfl)) ?_
  refine sr_pu rfl (fun _ => rd_len el_sl_int (ev_t rfl)) ?_
  refine sr_pu rfl (fun _ => rd_move ev_c) ?_
  refine sr_sub [(0, _, _), (3, _, _), (6, _, _), (7, _, _), (8, _, _)] (sub_cons rfl (sub_cons rfl (sub_cons rfl (sub_cons rfl (sub_cons rfl (sub_nil _)))))) ?_
  refine sr_nil (hK3 _ _ ?_)
  refine sc_block ?_
  refine sc_loop2 (fun (i : Nat) u1 => (i ≤ l.length ∧ ∀ j, (h : j < l.length) → j < i → l[j] ≠ k) ∧ G w u1) [(0, True, _), (6, True, _), (7, True, _)] (fun (i : Nat) => [(8, True, .int .i64 i)]) (fun (i : Nat) => l.length - i) (0) ⟨⟨Nat.zero_le _, fun j _ hj => absurd hj (Nat.not_lt_zero j)⟩, G.refl _⟩ (sub_cons rfl (sub_cons rfl (sub_cons rfl (sub_cons rfl (sub_nil _))))) ?_
  rintro i u1 ⟨hI1, gl1⟩
  have g := g.trans gl1
  refine sc_seq fun K4 hK4 => ?_
  refine sc_text [3] ?_
  refine sr_pu rfl (fun _ => rd_lt (ev_t rfl) (ev_t rfl)) ?_
  refine sr_nil (hK4 _ _ ?_)
  refine sc_sub [(0, _, _), (6, _, _), (7, _, _), (8, _, _), (9, _, _)] (sub_cons rfl (sub_cons rfl (sub_cons rfl (sub_cons rfl (sub_cons rfl (sub_nil _)))))) ?_
  refine sc_seq fun K5 hK5 => ?_
  refine sc_cond (ev_t rfl) (fun h1 => ?_) (fun h1 => ?_)
  · replace h1 : i < l.length := by simp only [decide_eq_true_eq] at h1; omega
    obtain ⟨b2, o2, rfl, hR⟩ := hp (by omega)
    have hv : (l.map (Value.int .i64))[i * 1]? = some (.int .i64 l[i]) := by simp [h1]
    refine sc_skip (hK5 _ _ ?_)
    refine sc_sub [(0, _, _), (6, _, _), (7, _, _), (8, _, _)] (sub_cons rfl (sub_cons rfl (sub_cons rfl (sub_cons rfl (sub_nil _))))) ?_
    refine sc_seq fun K6 hK6 => ?_
    refine sc_block ?_
    refine sc_seq fun K7 hK7 => ?_
    refine sc_text [3, 0, 3] ?_
    refine sr_pu rfl (fun _ => rd_idx el_sl_int (ev_t rfl) (ev_t rfl) (fun _ => by omega)) ?_
    refine sr_rd rfl (rd_load one_int (ev_t rfl) (fun _ => (hR.grow g) _ _ hv)) ?_
    refine sr_pu rfl (fun _ => rd_assign (ev_t rfl)) ?_
    refine sr_sub [(0, _, _), (5, _, _), (6, _, _), (7, _, _), (8, _, _)] (sub_cons rfl (sub_cons rfl (sub_cons rfl (sub_cons rfl (sub_cons rfl (sub_nil _)))))) ?_
    refine sr_nil (hK7 _ _ ?_)
    refine sc_seq fun K8 hK8 => ?_
    refine sc_text [3, 3, 3] ?_
    refine sr_pu rfl (fun _ => rd_move (ev_t rfl)) ?_
    refine sr_pu rfl (fun _ => rd_move (ev_t rfl)) ?_
    refine sr_pu rfl (fun _ => rd_eq (ev_t rfl) (ev_t rfl)) ?_
    refine sr_sub [(0, _, _), (6, _, _), (7, _, _), (8, _, _), (14, _, _)] (sub_cons rfl (sub_cons rfl (sub_cons rfl (sub_cons rfl (sub_cons rfl (sub_nil _)))))) ?_
    refine sr_nil (hK8 _ _ ?_)
    refine sc_cond (ev_t rfl) (fun h2 => ?_) (fun h2 => ?_)
    · simp only [decide_eq_true_eq] at h2
      refine sc_seq fun K9 hK9 => ?_
      refine sc_text [3] ?_
      refine sr_pu rfl (fun _ => rd_assign ev_c) ?_
      refine sr_sub [(0, _, _), (3, _, _), (6, _, _), (7, _, _), (8, _, _)] (sub_cons rfl (sub_cons rfl (sub_cons rfl (sub_cons rfl (sub_cons rfl (sub_nil _)))))) ?_
      refine sr_nil (hK9 _ _ ?_)
      refine sc_ret (t_ret1 rfl rfl ?_)
      refine ⟨congrArg Value.bool ?_, g⟩
      rw [memK, eq_comm, decide_eq_true_eq, ← h2]; exact List.getElem_mem h1
    simp only [decide_eq_false_iff_not] at h2
    refine sc_skip (hK6 _ _ ?_)
    refine sc_sub [(0, _, _), (6, _, _), (7, _, _), (8, _, _)] (sub_cons rfl (sub_cons rfl (sub_cons rfl (sub_cons rfl (sub_nil _))))) ?_
    refine sc_text [3, 3] ?_
    refine sr_pu rfl (fun _ => rd_add (ev_t rfl) ev_c (fun _ => by omega)) ?_
    refine sr_pu rfl (fun _ => rd_move (ev_t rfl)) ?_
    refine sr_sub [(8, _, _), (0, _, _), (6, _, _), (7, _, _)] (sub_cons rfl (sub_cons rfl (sub_cons rfl (sub_cons rfl (sub_nil _))))) ?_
    refine sr_nil (fun a ha => ?_)
    refine ⟨i + 1, ha, ⟨⟨h1, fun j h hj => ?_⟩, gl1⟩, by omega⟩
    by_cases e : j = i
    · subst e; exact h2
    · exact hI1.2 j h (by omega)
  (try simp only [bsimp] at h1)
  refine sc_exit rfl (hK2 _ _ ?_)
  refine sc_sub [] (sub_nil _) ?_
  refine sc_seq fun K10 hK10 => ?_
  refine sc_text [3] ?_
  refine sr_pu rfl (fun _ => rd_assign ev_c) ?_
  refine sr_nil (hK10 _ _ ?_)
  refine sc_ret (t_ret1 rfl rfl ?_)
  refine ⟨congrArg Value.bool ?_, g⟩
  rw [memK, eq_comm, decide_eq_false_iff_not]
  intro hm
  obtain ⟨j, hj, e⟩ := List.getElem_of_mem hm
  simp only [decide_eq_false_iff_not] at h1
  exact hI1.2 j hj (by omega) e
theorem among_ok (l : List Int) (b o c : Nat) (w : World) (hR : RowAt w b o (l.map (Value.int .i64))) (hl : l.length ≤ 1000) : Ret PP fn_syntax_among #[.slice (some ⟨b, o, none⟩) l.length c] w fun v w' => FnV PP (memK l) v w' ∧ G w w' := by
  have g := G.refl w
  refine ret_of_sc (m := 4) func_syntax_among rfl rfl [(0, True, _)] (sub_cons rfl (sub_nil _)) ?_
  refine sc_seq fun K1 hK1 => ?_
  refine sc_text [1, 3] ?_
  refine sr_box rfl (ev_t rfl) rfl ?_
  intro b1 w1 N1
  have l1 := N1.ge g
  have g := g.trans (N1.g)
  have B1 := N1.blk
  refine sr_pu rfl (fun _ => rd_assign ev_c) ?_
  refine sr_sub [(1, _, _), (2, _, _)] (sub_cons rfl (sub_cons rfl (sub_nil _))) ?_
  refine sr_nil (hK1 _ _ ?_)
  refine sc_seq fun K2 hK2 => ?_
  refine sc_text [3, 3] ?_
  refine sr_pu rfl (fun _ => rd_func (args_nil) (args_cons (ev_t rfl) (args_nil))) ?_
  refine sr_pu rfl (fun _ => rd_assign (ev_t rfl)) ?_
  refine sr_sub [(2, _, _)] (sub_cons rfl (sub_nil _)) ?_
  refine sr_nil (hK2 _ _ ?_)
  refine sc_ret (t_ret1 rfl rfl ?_)
  refine ⟨⟨_, _, _, rfl, go_syntax_among_1, fun k w' g' => ?_⟩, g⟩
  exact among1_ok l _ _ _ k w' (B1.grow g') (fun _ => ⟨b, o, rfl, (hR.grow g).grow g'⟩) hl
theorem either1_ok (q r : Int → Bool) (f h : Value) (b1 b2 : Nat) (k : Int) (w : World) (h1 : Blk w b1 ty_func_int_bool [f]) (h2 : Blk w b2 ty_func_int_bool [h]) (hF : FnV PP q f w) (hH : FnV PP r h w) :
    Ret PP fn_syntax_either_1 #[.int .i64 k, .pointer (some ⟨b1, 0, none⟩), .pointer (some ⟨b2, 0, none⟩)] w fun v w' => v = .bool (q k || r k) ∧ G w w' := by
  have g := G.refl w
  obtain ⟨f0, fs0, cs0, rfl, hgo0, hf0⟩ := hF
  obtain ⟨f1, fs1, cs1, rfl, hgo1, hf1⟩ := hH
  refine ret_of_sc (m := 13) func_syntax_either_1 rfl rfl [(0, True, _), (1, True, _), (2, True, _)] (sub_cons rfl (sub_cons rfl (sub_cons rfl (sub_nil _)))) ?_
  refine sc_seq fun K1 hK1 => ?_
  refine sc_text [3] ?_
  refine sr_pu rfl (fun _ => rd_assign ev_c) ?_
  refine sr_nil (hK1 _ _ ?_)
  refine sc_seq fun K2 hK2 => ?_
  refine sc_text [0, 3, 1, 3, 0, 3, 1, 3, 3] ?_
  refine sr_rd rfl (rd_load one_func_int_bool (ev_t rfl) (fun _ => (h1.grow g).at_ rfl)) ?_
  refine sr_pu rfl (fun _ => rd_move (ev_t rfl)) ?_
  refine sr_pure rfl (rc_call hgo0 (ev_t rfl) (args_cons (ev_t rfl) (args_nil)) rfl) (hf0 k _ g) (fun w7 g7 => ?_)
  have g := g.trans (g7)
  refine sr_pu rfl (fun _ => rd_move (ev_t rfl)) ?_
  refine sr_rdg rfl rfl rfl (rd_load one_func_int_bool (ev_t rfl) (fun _ => (h2.grow g).at_ rfl)) ?_
  refine sr_pug rfl rfl rfl (fun _ => rd_move (ev_t rfl)) ?_
  refine sr_pureg rfl rfl rfl (fun _ => (rc_call hgo1 (ev_u rfl id) (args_cons (ev_u rfl id) (args_nil)) rfl)) (fun hc => hf1 k _ g) (fun w11 g11 => ?_)
  have g := g.trans (g11)
  refine sr_pu rfl (fun _ => rd_pick_or (ev_t rfl) (ev_u rfl id)) ?_
  refine sr_pu rfl (fun _ => rd_assign (ev_t rfl)) ?_
  refine sr_sub [(4, _, _)] (sub_cons rfl (sub_nil _)) ?_
  refine sr_nil (hK2 _ _ ?_)
  refine sc_ret (t_ret1 rfl rfl ?_)
  exact ⟨rfl, g⟩
theorem either_ok (q : Int → Bool) (l : List Int) (f : Value) (b o c : Nat) (w : World) (hF : FnV PP q f w) (hR : RowAt w b o (l.map (Value.int .i64))) (hl : l.length ≤ 1000) : Ret PP fn_syntax_either #[f, .slice (some ⟨b, o, none⟩) l.length c] w fun v w' => FnV PP (fun k => q k || memK l k) v w' ∧ G w w' := by
  have g := G.refl w
  have hF0 := hF
  obtain ⟨f0, fs0, cs0, rfl, hgo0, hf0⟩ := hF
  refine ret_of_sc (m := 9) func_syntax_either rfl rfl [(0, True, _), (1, True, _)] (sub_cons rfl (sub_cons rfl (sub_nil _))) ?_
  refine sc_seq fun K1 hK1 => ?_
  refine sc_text [1, 3] ?_
  refine sr_box rfl (ev_t rfl) rfl ?_
  intro b2 w2 N2
  have l2 := N2.ge g
  have g := g.trans (N2.g)
  have B2 := N2.blk
  refine sr_pu rfl (fun _ => rd_assign ev_c) ?_
  refine sr_sub [(1, _, _), (2, _, _), (4, _, _)] (sub_cons rfl (sub_cons rfl (sub_cons rfl (sub_nil _)))) ?_
  refine sr_nil (hK1 _ _ ?_)
  refine sc_seq fun K2 hK2 => ?_
  refine sc_text [3, 1, 1, 2] ?_
  refine sr_pu rfl (fun _ => rd_move (ev_t rfl)) ?_
  refine sr_call rfl (rc_call go_syntax_among ev_f (args_cons (ev_t rfl) (args_nil)) rfl) (among_ok l _ _ _ _ (hR.grow g) hl) ?_
  rintro v7 w7 ⟨hA, g7⟩
  refine ⟨fun _ => g7, ?_⟩
  have g := g.trans g7
  have hA0 := hA
  obtain ⟨f1, fs1, cs1, rfl, hgo1, hf1⟩ := hA
  replace B2 := B2.grow (g7)
  have gm := G.refl w7
  refine sr_alloc rfl ze_func_int_bool rfl ?_
  intro b5 w5 N5
  have x5_2 := N5.ne B2
  have l5 := N5.ge g
  try have l5_gm := N5.ge gm
  have g := g.trans (N5.g)
  try have gm := gm.trans (N5.g)
  replace B2 := B2.grow (N5.g)
  have B5 := N5.blk
  refine sr_store_all rfl sz_func_int_bool (ev_t rfl) (ev_t rfl) rfl rfl B5 rfl rfl ?_
  intro wS1 hgS1 hzS1
  clear B5
  intro B5
  replace B2 := B2.keep hgS1 (by intro h; injection h with h; first | exact x5_2 h.symm | exact x2_5 h | omega)
  have g := g_only g hgS1 (by intro k hk; injection hk with hk; omega)
  first | replace gm := g_only gm hgS1 (by intro k hk; injection hk with hk; omega) | clear gm | skip
  refine sr_sub [(2, _, _), (4, _, _), (5, _, _)] (sub_cons rfl (sub_cons rfl (sub_cons rfl (sub_nil _)))) ?_
  refine sr_nil (hK2 _ _ ?_)
  refine sc_seq fun K3 hK3 => ?_
  refine sc_text [3, 3] ?_
  refine sr_pu rfl (fun _ => rd_func (args_nil) (args_cons (ev_t rfl) (args_cons (ev_t rfl) (args_nil)))) ?_
  refine sr_pu rfl (fun _ => rd_assign (ev_t rfl)) ?_
  refine sr_sub [(4, _, _)] (sub_cons rfl (sub_nil _)) ?_
  refine sr_nil (hK3 _ _ ?_)
  refine sc_ret (t_ret1 rfl rfl ?_)
  refine ⟨⟨_, _, _, rfl, go_syntax_either_1, fun k w' g' => ?_⟩, g⟩
  exact either1_ok q (memK l) _ _ _ _ k w' (B2.grow g') (B5.grow g') ((hF0.grow g).grow g') ((hA0.grow gm).grow g')
end Go.Rk
namespace Go.Rk
open Go Go.RowKit
def typeNames : List (List UInt8) := [[105, 110, 116], [98, 111, 111, 108], [91, 93, 105, 110, 116], [99, 104, 97, 110], [102, 117, 110, 99], [109, 117, 116, 101, 120], [114, 119, 109, 117, 116, 101, 120], [103, 114, 111, 117, 112], [111, 110, 99, 101], [97, 116, 111, 109, 105, 99]]
def typeNameB (s : List UInt8) : Bool := anyS typeNames s
def leafB (t : Nd) : Bool := decide ((t.kids.length : Int) = 0)
def isTypeB (t : Nd) : Bool := bif decide (t.kind = 8) then nameB t.text && leafB t else bif decide (t.kind = 7) then typeNameB t.text && leafB t else false
def binOps : List (List UInt8) := [[124, 124], [38, 38], [61, 61], [33, 61], [60], [60, 61], [62], [62, 61], [43], [45], [42], [47], [37]]
end Go.Rk
namespace Go.Rk
open Go Go.RowKit
def kidAt (t : Nd) (i : Nat) : Nd := t.kids.getD i nd0
theorem kidAt_eq {t : Nd} {i : Nat} (h : i < t.kids.length) : kidAt t i = t.kids[i] := by simp [kidAt, List.getD_eq_getElem?_getD, List.getElem?_eq_getElem h]
def kidsB (t : Nd) (qs : List (Int → Bool)) : Bool := decide (t.kids.length = qs.length) && (List.range qs.length).all fun i => (qs.getD i (fun _ => false)) (kidAt t i).kind
def everyB (t : Nd) (q : Int → Bool) : Bool := t.kids.all fun k => q k.kind
theorem kids_ok (t : Nd) (p : Option Addr) (c : Nat) (D : Nat → Prop) (qs : List (Int → Bool)) (vs : List Value) (b o cap : Nat) (w : World) (hk : Kd w D t.kids (.slice p t.kids.length c)) (hl : vs.length = qs.length) (hR : RowAt w b o vs)
    (hF : ∀ i (h : i < vs.length), FnV PP (qs.getD i (fun _ => false)) vs[i] w) (hc : t.kids.length ≤ 1000000) : Ret PP fn_syntax_kids #[ndV t (.slice p t.kids.length c), .slice (some ⟨b, o, none⟩) qs.length cap] w fun v w' => v = .bool (kidsB t qs) ∧ G w w' := by
  have g := G.refl w
  obtain ⟨p', c', hpe, _, hks⟩ := hk
  injection hpe with hpe _ hce
  subst hpe hce
  refine ret_of_sc (m := 30) func_syntax_kids rfl rfl [(0, True, _), (1, True, _)] (sub_cons rfl (sub_cons rfl (sub_nil _))) ?_
  refine sc_seq fun K1 hK1 => ?_
  refine sc_text [1, 3] ?_
  refine sr_box rfl (ev_t rfl) rfl ?_
  intro b2 w2 N2
  have l2 := N2.ge g
  have g := g.trans (N2.g)
  have B2 := N2.blk
  refine sr_pu rfl (fun _ => rd_assign ev_c) ?_
  refine sr_sub [(1, _, _), (2, _, _), (4, _, _)] (sub_cons rfl (sub_cons rfl (sub_cons rfl (sub_nil _)))) ?_
  refine sr_nil (hK1 _ _ ?_)
  refine sc_seq fun K2 hK2 => ?_
  refine sc_seq fun K3 hK3 => ?_
  refine sc_text [3, 0, 3, 3, 3, 3] ?_
  refine sr_pu rfl (fun _ => rd_field fo_api_Node_4 (ev_t rfl)) ?_
  refine sr_rd rfl (rd_load one_sl_api_Node (ev_t rfl) (fun _ => B2.at_ rfl)) ?_
  refine sr_pu rfl (fun _ => rd_len el_sl_api_Node (ev_t rfl)) ?_
  refine sr_pu rfl (fun _ => rd_move (ev_t rfl)) ?_
  refine sr_pu rfl (fun _ => rd_len el_sl_func_int_bool (ev_t rfl)) ?_
  refine sr_pu rfl (fun _ => rd_ne (ev_t rfl) (ev_t rfl)) ?_
  refine sr_sub [(1, _, _), (2, _, _), (4, _, _), (12, _, _)] (sub_cons rfl (sub_cons rfl (sub_cons rfl (sub_cons rfl (sub_nil _))))) ?_
  refine sr_nil (hK3 _ _ ?_)
  refine sc_cond (ev_t rfl) (fun h1 => ?_) (fun h1 => ?_)
  · have hN : kidsB t qs = false := by
      have : ¬ t.kids.length = qs.length := by simp at h1; omega
      rw [kidsB, decide_eq_false this]; rfl
    refine sc_seq fun K4 hK4 => ?_
    refine sc_text [3] ?_
    refine sr_pu rfl (fun _ => rd_assign ev_c) ?_
    refine sr_sub [(1, _, _), (2, _, _), (4, _, _)] (sub_cons rfl (sub_cons rfl (sub_cons rfl (sub_nil _)))) ?_
    refine sr_nil (hK4 _ _ ?_)
    refine sc_ret (t_ret1 rfl rfl ?_)
    rw [hN]; exact ⟨rfl, g⟩
  have hle : t.kids.length = qs.length := by simp at h1; omega
  refine sc_skip (hK2 _ _ ?_)
  refine sc_sub [(1, _, _), (2, _, _), (4, _, _)] (sub_cons rfl (sub_cons rfl (sub_cons rfl (sub_nil _)))) ?_
  refine sc_seq fun K5 hK5 => ?_
  refine sc_seq fun K6 hK6 => ?_
  refine sc_text [3, 3, 3] ?_
  refine sr_pu rfl (fun _ => rd_move (ev_t rfl)) ?_
  refine sr_pu rfl (fun _ => rd_len el_sl_func_int_bool (ev_t rfl)) ?_
  refine sr_pu rfl (fun _ => rd_move ev_c) ?_
  refine sr_sub [(2, _, _), (4, _, _), (13, _, _), (14, _, _), (15, _, _)] (sub_cons rfl (sub_cons rfl (sub_cons rfl (sub_cons rfl (sub_cons rfl (sub_nil _)))))) ?_
  refine sr_nil (hK6 _ _ ?_)
  refine sc_block ?_
  refine sc_loop2 (fun (i : Nat) u1 => (i ≤ qs.length ∧ ∀ j, j < i → (qs.getD j (fun _ => false)) (kidAt t j).kind = true) ∧ G w2 u1) [(2, True, _), (13, True, _), (14, True, _)] (fun (i : Nat) => [(15, True, .int .i64 i)]) (fun (i : Nat) => qs.length - i) (0) ⟨⟨Nat.zero_le _, fun j hj => absurd hj (Nat.not_lt_zero j)⟩, G.refl _⟩ (sub_cons rfl (sub_cons rfl (sub_cons rfl (sub_cons rfl (sub_nil _))))) ?_
  rintro i u1 ⟨hI1, gl1⟩
  have g := g.trans gl1
  replace B2 := B2.grow (gl1)
  refine sc_seq fun K7 hK7 => ?_
  refine sc_text [3] ?_
  refine sr_pu rfl (fun _ => rd_lt (ev_t rfl) (ev_t rfl)) ?_
  refine sr_nil (hK7 _ _ ?_)
  refine sc_sub [(2, _, _), (13, _, _), (14, _, _), (15, _, _), (16, _, _)] (sub_cons rfl (sub_cons rfl (sub_cons rfl (sub_cons rfl (sub_cons rfl (sub_nil _)))))) ?_
  refine sc_seq fun K8 hK8 => ?_
  refine sc_cond (ev_t rfl) (fun h2 => ?_) (fun h2 => ?_)
  · replace h2 : i < qs.length := by simp only [decide_eq_true_eq] at h2; omega
    obtain ⟨f, fs, cs, hfe, hgo, hf⟩ := hF i (by omega)
    have hv := hR i _ (List.getElem?_eq_getElem (show i < vs.length by omega))
    rw [hfe] at hv
    obtain ⟨b2, o2, rfl, hD, xs, hR2, hX⟩ := hks (by omega)
    obtain ⟨p2, c2, hcell, _⟩ := kd_at hR2 hX (show i < t.kids.length by omega)
    rw [← kidAt_eq] at hcell
    refine sc_skip (hK8 _ _ ?_)
    refine sc_sub [(2, _, _), (13, _, _), (14, _, _), (15, _, _)] (sub_cons rfl (sub_cons rfl (sub_cons rfl (sub_cons rfl (sub_nil _))))) ?_
    refine sc_seq fun K9 hK9 => ?_
    refine sc_block ?_
    refine sc_seq fun K10 hK10 => ?_
    refine sc_text [3, 3, 0, 3, 3] ?_
    refine sr_pu rfl (fun _ => rd_move (ev_t rfl)) ?_
    refine sr_pu rfl (fun _ => rd_idx el_sl_func_int_bool (ev_t rfl) (ev_t rfl) (fun _ => by omega)) ?_
    refine sr_rd rfl (rd_load one_func_int_bool (ev_t rfl) (fun _ => by have := cell_grow g hv; simpa using this)) ?_
    refine sr_pu rfl (fun _ => rd_assign (ev_t rfl)) ?_
    refine sr_pu rfl (fun _ => rd_assign (ev_t rfl)) ?_
    refine sr_sub [(2, _, _), (5, _, _), (6, _, _), (13, _, _), (14, _, _), (15, _, _)] (sub_cons rfl (sub_cons rfl (sub_cons rfl (sub_cons rfl (sub_cons rfl (sub_cons rfl (sub_nil _))))))) ?_
    refine sr_nil (hK10 _ _ ?_)
    refine sc_seq fun K11 hK11 => ?_
    refine sc_text [3, 3, 0, 3, 3, 3, 0, 1, 3] ?_
    refine sr_pu rfl (fun _ => rd_move (ev_t rfl)) ?_
    refine sr_pu rfl (fun _ => rd_field fo_api_Node_4 (ev_t rfl)) ?_
    refine sr_rd rfl (rd_load one_sl_api_Node (ev_t rfl) (fun _ => B2.at_ rfl)) ?_
    refine sr_pu rfl (fun _ => rd_move (ev_t rfl)) ?_
    refine sr_pu rfl (fun _ => rd_idx el_sl_api_Node (ev_t rfl) (ev_t rfl) (fun _ => by omega)) ?_
    refine sr_pu rfl (fun _ => rd_field fo_api_Node_0 (ev_t rfl)) ?_
    refine sr_rd rfl (rd_load one_int (ev_t rfl) (fun _ => (hcell.grow g) 0 _ rfl)) ?_
    refine sr_pure rfl (rc_call hgo (ev_t rfl) (args_cons (ev_t rfl) (args_nil)) rfl) (hf _ _ g) (fun w27 g27 => ?_)
    have g := g.trans (g27)
    try have gl1 := gl1.trans (g27)
    replace B2 := B2.grow (g27)
    refine sr_pu rfl (fun _ => rd_not (ev_t rfl)) ?_
    refine sr_sub [(2, _, _), (13, _, _), (14, _, _), (15, _, _), (28, _, _)] (sub_cons rfl (sub_cons rfl (sub_cons rfl (sub_cons rfl (sub_cons rfl (sub_nil _)))))) ?_
    refine sr_nil (hK11 _ _ ?_)
    refine sc_cond (ev_t rfl) (fun h3 => ?_) (fun h3 => ?_)
    · (try simp only [bsimp] at h3)
      refine sc_seq fun K12 hK12 => ?_
      refine sc_text [3] ?_
      refine sr_pu rfl (fun _ => rd_assign ev_c) ?_
      refine sr_sub [(2, _, _), (4, _, _), (13, _, _), (14, _, _), (15, _, _)] (sub_cons rfl (sub_cons rfl (sub_cons rfl (sub_cons rfl (sub_cons rfl (sub_nil _)))))) ?_
      refine sr_nil (hK12 _ _ ?_)
      refine sc_ret (t_ret1 rfl rfl ?_)
      refine ⟨congrArg Value.bool ?_, g⟩
      rw [eq_comm, kidsB, decide_eq_true hle, Bool.true_and, List.all_eq_false]
      exact ⟨i, List.mem_range.2 h2, by simpa using h3⟩
    (try simp only [bsimp] at h3)
    refine sc_skip (hK9 _ _ ?_)
    refine sc_sub [(2, _, _), (13, _, _), (14, _, _), (15, _, _)] (sub_cons rfl (sub_cons rfl (sub_cons rfl (sub_cons rfl (sub_nil _))))) ?_
    refine sc_text [3, 3] ?_
    refine sr_pu rfl (fun _ => rd_add (ev_t rfl) ev_c (fun _ => by omega)) ?_
    refine sr_pu rfl (fun _ => rd_move (ev_t rfl)) ?_
    refine sr_sub [(15, _, _), (2, _, _), (13, _, _), (14, _, _)] (sub_cons rfl (sub_cons rfl (sub_cons rfl (sub_cons rfl (sub_nil _))))) ?_
    refine sr_nil (fun a ha => ?_)
    refine ⟨i + 1, ha, ⟨⟨h2, fun j hj => ?_⟩, gl1⟩, by omega⟩
    by_cases e : j = i
    · subst e; simpa using h3
    · exact hI1.2 j (by omega)
  (try simp only [bsimp] at h2)
  refine sc_exit rfl (hK5 _ _ ?_)
  refine sc_sub [] (sub_nil _) ?_
  refine sc_seq fun K13 hK13 => ?_
  refine sc_text [3] ?_
  refine sr_pu rfl (fun _ => rd_assign ev_c) ?_
  refine sr_nil (hK13 _ _ ?_)
  refine sc_ret (t_ret1 rfl rfl ?_)
  refine ⟨congrArg Value.bool ?_, g⟩
  rw [eq_comm, kidsB, decide_eq_true hle, Bool.true_and, List.all_eq_true]
  intro j hj
  exact hI1.2 j (by have := List.mem_range.1 hj; simp only [decide_eq_false_iff_not] at h2; omega)
theorem every_ok (t : Nd) (p : Option Addr) (c : Nat) (D : Nat → Prop) (q : Int → Bool) (v : Value) (w : World) (hk : Kd w D t.kids (.slice p t.kids.length c)) (hF : FnV PP q v w) (hc : t.kids.length ≤ 1000000) : Ret PP fn_syntax_every #[ndV t (.slice p t.kids.length c), .int .i64 0, v] w fun v w' => v = .bool (everyB t q) ∧ G w w' := by
  have g := G.refl w
  obtain ⟨p', c', hpe, _, hks⟩ := hk
  injection hpe with hpe _ hce
  subst hpe hce
  obtain ⟨f, fs, cs, rfl, hgo, hf⟩ := hF
  refine ret_of_sc (m := 29) func_syntax_every rfl rfl [(0, True, _), (1, True, _), (2, True, _)] (sub_cons rfl (sub_cons rfl (sub_cons rfl (sub_nil _)))) ?_
  refine sc_seq fun K1 hK1 => ?_
  refine sc_text [1, 3] ?_
  refine sr_box rfl (ev_t rfl) rfl ?_
  intro b3 w3 N3
  have l3 := N3.ge g
  have g := g.trans (N3.g)
  have B3 := N3.blk
  refine sr_pu rfl (fun _ => rd_assign ev_c) ?_
  refine sr_sub [(1, _, _), (2, _, _), (3, _, _), (6, _, _)] (sub_cons rfl (sub_cons rfl (sub_cons rfl (sub_cons rfl (sub_nil _))))) ?_
  refine sr_nil (hK1 _ _ ?_)
  refine sc_seq fun K2 hK2 => ?_
  refine sc_seq fun K3 hK3 => ?_
  refine sc_text [3, 0, 3, 3, 3] ?_
  refine sr_pu rfl (fun _ => rd_field fo_api_Node_4 (ev_t rfl)) ?_
  refine sr_rd rfl (rd_load one_sl_api_Node (ev_t rfl) (fun _ => B3.at_ rfl)) ?_
  refine sr_pu rfl (fun _ => rd_len el_sl_api_Node (ev_t rfl)) ?_
  refine sr_pu rfl (fun _ => rd_move (ev_t rfl)) ?_
  refine sr_pu rfl (fun _ => rd_lt (ev_t rfl) (ev_t rfl)) ?_
  refine sr_sub [(1, _, _), (2, _, _), (3, _, _), (6, _, _), (13, _, _)] (sub_cons rfl (sub_cons rfl (sub_cons rfl (sub_cons rfl (sub_cons rfl (sub_nil _)))))) ?_
  refine sr_nil (hK3 _ _ ?_)
  refine sc_cond (ev_t rfl) (fun h1 => ?_) (fun h1 => ?_)
  · exfalso; simp only [decide_eq_true_eq] at h1; omega
    done
  (try simp only [bsimp] at h1)
  refine sc_skip (hK2 _ _ ?_)
  refine sc_sub [(1, _, _), (2, _, _), (3, _, _), (6, _, _)] (sub_cons rfl (sub_cons rfl (sub_cons rfl (sub_cons rfl (sub_nil _))))) ?_
  refine sc_seq fun K4 hK4 => ?_
  refine sc_seq fun K5 hK5 => ?_
  refine sc_text [3, 0, 3, 3, 3, 3] ?_
  refine sr_pu rfl (fun _ => rd_field fo_api_Node_4 (ev_t rfl)) ?_
  refine sr_rd rfl (rd_load one_sl_api_Node (ev_t rfl) (fun _ => B3.at_ rfl)) ?_
  refine sr_pu rfl (fun _ => rd_move (ev_t rfl)) ?_
  refine sr_pu rfl (fun _ => rd_sl_from0 el_sl_api_Node (ev_t rfl) (ev_t rfl)) ?_
  refine sr_pu rfl (fun _ => rd_len el_sl_api_Node (ev_t rfl)) ?_
  refine sr_pu rfl (fun _ => rd_move ev_c) ?_
  refine sr_sub [(2, _, _), (6, _, _), (17, _, _), (18, _, _), (19, _, _)] (sub_cons rfl (sub_cons rfl (sub_cons rfl (sub_cons rfl (sub_cons rfl (sub_nil _)))))) ?_
  refine sr_nil (hK5 _ _ ?_)
  refine sc_block ?_
  refine sc_loop2 (fun (i : Nat) u1 => (i ≤ t.kids.length ∧ ∀ j, (h : j < t.kids.length) → j < i → q t.kids[j].kind = true) ∧ G w3 u1) [(2, True, _), (17, True, _), (18, True, _)] (fun (i : Nat) => [(19, True, .int .i64 i)]) (fun (i : Nat) => t.kids.length - i) (0) ⟨⟨Nat.zero_le _, fun j _ hj => absurd hj (Nat.not_lt_zero j)⟩, G.refl _⟩ (sub_cons rfl (sub_cons rfl (sub_cons rfl (sub_cons rfl (sub_nil _))))) ?_
  rintro i u1 ⟨hI1, gl1⟩
  have g := g.trans gl1
  replace B3 := B3.grow (gl1)
  refine sc_seq fun K6 hK6 => ?_
  refine sc_text [3] ?_
  refine sr_pu rfl (fun _ => rd_lt (ev_t rfl) (ev_t rfl)) ?_
  refine sr_nil (hK6 _ _ ?_)
  refine sc_sub [(2, _, _), (17, _, _), (18, _, _), (19, _, _), (20, _, _)] (sub_cons rfl (sub_cons rfl (sub_cons rfl (sub_cons rfl (sub_cons rfl (sub_nil _)))))) ?_
  refine sc_seq fun K7 hK7 => ?_
  refine sc_cond (ev_t rfl) (fun h2 => ?_) (fun h2 => ?_)
  · replace h2 : i < t.kids.length := by simp only [decide_eq_true_eq] at h2; omega
    obtain ⟨b2, o2, rfl, hD, xs, hR2, hX⟩ := hks (by omega)
    obtain ⟨p2, c2, hcell, _⟩ := kd_at hR2 hX h2
    refine sc_skip (hK7 _ _ ?_)
    refine sc_sub [(2, _, _), (17, _, _), (18, _, _), (19, _, _)] (sub_cons rfl (sub_cons rfl (sub_cons rfl (sub_cons rfl (sub_nil _))))) ?_
    refine sc_seq fun K8 hK8 => ?_
    refine sc_block ?_
    refine sc_seq fun K9 hK9 => ?_
    refine sc_text [3, 0, 1, 2] ?_
    refine sr_pu rfl (fun _ => rd_idx el_sl_api_Node (ev_t rfl) (ev_t rfl) (fun _ => by omega)) ?_
    refine sr_rd rfl (rd_loads agg_api_Node (ev_t rfl) rfl (fun _ => hcell.grow g)) ?_
    refine sr_alloc rfl ze_api_Node rfl ?_
    intro b8 w8 N8
    have x8_3 := N8.ne B3
    have l8 := N8.ge g
    try have l8_gl1 := N8.ge gl1
    have g := g.trans (N8.g)
    try have gl1 := gl1.trans (N8.g)
    replace B3 := B3.grow (N8.g)
    have B8 := N8.blk
    refine sr_store_all rfl sz_api_Node (ev_t rfl) (ev_t rfl) rfl rfl B8 rfl rfl ?_
    intro wS1 hgS1 hzS1
    clear B8
    intro B8
    replace B3 := B3.keep hgS1 (by intro h; injection h with h; first | exact x8_3 h.symm | exact x3_8 h | omega)
    have g := g_only g hgS1 (by intro k hk; injection hk with hk; omega)
    first | replace gl1 := g_only gl1 hgS1 (by intro k hk; injection hk with hk; omega) | clear gl1 | skip
    refine sr_sub [(2, _, _), (8, _, _), (17, _, _), (18, _, _), (19, _, _)] (sub_cons rfl (sub_cons rfl (sub_cons rfl (sub_cons rfl (sub_cons rfl (sub_nil _)))))) ?_
    refine sr_nil (hK9 _ _ ?_)
    refine sc_seq fun K10 hK10 => ?_
    refine sc_text [3, 3, 0, 1, 3] ?_
    refine sr_pu rfl (fun _ => rd_move (ev_t rfl)) ?_
    refine sr_pu rfl (fun _ => rd_field fo_api_Node_0 (ev_t rfl)) ?_
    refine sr_rd rfl (rd_load one_int (ev_t rfl) (fun _ => B8.at_ rfl)) ?_
    refine sr_pure rfl (rc_call hgo (ev_t rfl) (args_cons (ev_t rfl) (args_nil)) rfl) (hf _ _ g) (fun w26 g26 => ?_)
    have g := g.trans (g26)
    try have gl1 := gl1.trans (g26)
    replace B3 := B3.grow (g26)
    replace B8 := B8.grow (g26)
    refine sr_pu rfl (fun _ => rd_not (ev_t rfl)) ?_
    refine sr_sub [(2, _, _), (17, _, _), (18, _, _), (19, _, _), (27, _, _)] (sub_cons rfl (sub_cons rfl (sub_cons rfl (sub_cons rfl (sub_cons rfl (sub_nil _)))))) ?_
    refine sr_nil (hK10 _ _ ?_)
    refine sc_cond (ev_t rfl) (fun h3 => ?_) (fun h3 => ?_)
    · (try simp only [bsimp] at h3)
      refine sc_seq fun K11 hK11 => ?_
      refine sc_text [3] ?_
      refine sr_pu rfl (fun _ => rd_assign ev_c) ?_
      refine sr_sub [(2, _, _), (6, _, _), (17, _, _), (18, _, _), (19, _, _)] (sub_cons rfl (sub_cons rfl (sub_cons rfl (sub_cons rfl (sub_cons rfl (sub_nil _)))))) ?_
      refine sr_nil (hK11 _ _ ?_)
      refine sc_ret (t_ret1 rfl rfl ?_)
      refine ⟨congrArg Value.bool ?_, g⟩
      rw [eq_comm, everyB, List.all_eq_false]
      exact ⟨_, List.getElem_mem h2, by simpa using h3⟩
    (try simp only [bsimp] at h3)
    refine sc_skip (hK8 _ _ ?_)
    refine sc_sub [(2, _, _), (17, _, _), (18, _, _), (19, _, _)] (sub_cons rfl (sub_cons rfl (sub_cons rfl (sub_cons rfl (sub_nil _))))) ?_
    refine sc_text [3, 3] ?_
    refine sr_pu rfl (fun _ => rd_add (ev_t rfl) ev_c (fun _ => by omega)) ?_
    refine sr_pu rfl (fun _ => rd_move (ev_t rfl)) ?_
    refine sr_sub [(19, _, _), (2, _, _), (17, _, _), (18, _, _)] (sub_cons rfl (sub_cons rfl (sub_cons rfl (sub_cons rfl (sub_nil _))))) ?_
    refine sr_nil (fun a ha => ?_)
    refine ⟨i + 1, ha, ⟨⟨h2, fun j h hj => ?_⟩, gl1⟩, by omega⟩
    by_cases e : j = i
    · subst e; simpa using h3
    · exact hI1.2 j h (by omega)
  (try simp only [bsimp] at h2)
  refine sc_exit rfl (hK4 _ _ ?_)
  refine sc_sub [] (sub_nil _) ?_
  refine sc_seq fun K12 hK12 => ?_
  refine sc_text [3] ?_
  refine sr_pu rfl (fun _ => rd_assign ev_c) ?_
  refine sr_nil (hK12 _ _ ?_)
  refine sc_ret (t_ret1 rfl rfl ?_)
  refine ⟨congrArg Value.bool ?_, g⟩
  rw [eq_comm, everyB, List.all_eq_true]
  intro x hx
  obtain ⟨j, hj, rfl⟩ := List.getElem_of_mem hx
  exact hI1.2 j hj (by simp only [decide_eq_false_iff_not] at h2; omega)
def commB (t : Nd) : Bool := bif anyK [9, 16] t.kind then true
  else bif anyK [13, 11] t.kind then decide (((t.kids.length : Int) - 1) = 0) && decide ((kidAt t 0).kind = 33)
  else bif decide (t.kind = 12) then decide (((t.kids.length : Int) - 1) = 1) && decide ((kidAt t 1).kind = 33) else false
/-- Where a child lies, whatever the slice. -/
theorem kd_opt {w : World} {D : Nat → Prop} {t : Nd} {p : Option Addr} {c : Nat} (hk : Kd w D t.kids (.slice p t.kids.length c)) {i : Nat} (h : i < t.kids.length) : p = some ⟨pb p, po p, none⟩ ∧ ∃ p' c', RowAt w (pb p) (po p + i * 9) (ndCells (kidAt t i) (.slice p' (kidAt t i).kids.length c')) ∧ Kd w D (kidAt t i).kids (.slice p' (kidAt t i).kids.length c') := by
  obtain ⟨p', c', hpe, _, hks⟩ := hk
  injection hpe with hpe _ hce
  subst hpe hce
  obtain ⟨b2, o2, rfl, hD, xs, hR2, hX⟩ := hks (by omega)
  refine ⟨rfl, ?_⟩
  rw [kidAt_eq h]
  exact kd_at hR2 hX h
theorem comm_ok (t : Nd) (p : Option Addr) (c : Nat) (D : Nat → Prop) (w : World) (hk : Kd w D t.kids (.slice p t.kids.length c)) (hc : t.kids.length ≤ 1000000) : Ret PP fn_syntax_communication #[ndV t (.slice p t.kids.length c)] w fun v w' => v = .bool (commB t) ∧ G w w' := by
  have g := G.refl w
  refine ret_of_sc (m := 38) func_syntax_communication rfl rfl [(0, True, _)] (sub_cons rfl (sub_nil _)) ?_
  refine sc_seq fun K1 hK1 => ?_
  refine sc_text [1, 3] ?_
  refine sr_box rfl (ev_t rfl) rfl ?_
  intro b1 w1 N1
  have l1 := N1.ge g
  have g := g.trans (N1.g)
  have B1 := N1.blk
  refine sr_pu rfl (fun _ => rd_assign ev_c) ?_
  refine sr_sub [(1, _, _), (2, _, _)] (sub_cons rfl (sub_cons rfl (sub_nil _))) ?_
  refine sr_nil (hK1 _ _ ?_)
  refine sc_seq fun K2 hK2 => ?_
  refine sc_text [3, 0, 3, 3, 3] ?_
  refine sr_pu rfl (fun _ => rd_field fo_api_Node_4 (ev_t rfl)) ?_
  refine sr_rd rfl (rd_load one_sl_api_Node (ev_t rfl) (fun _ => B1.at_ rfl)) ?_
  refine sr_pu rfl (fun _ => rd_len el_sl_api_Node (ev_t rfl)) ?_
  refine sr_pu rfl (fun _ => rd_sub (ev_t rfl) ev_c (fun _ => by omega)) ?_
  refine sr_pu rfl (fun _ => rd_assign (ev_t rfl)) ?_
  refine sr_sub [(1, _, _), (2, _, _), (3, _, _)] (sub_cons rfl (sub_cons rfl (sub_cons rfl (sub_nil _)))) ?_
  refine sr_nil (hK2 _ _ ?_)
  refine sc_seq fun K3 hK3 => ?_
  refine sc_seq fun K4 hK4 => ?_
  refine sc_text [3, 0] ?_
  refine sr_pu rfl (fun _ => rd_field fo_api_Node_0 (ev_t rfl)) ?_
  refine sr_rd rfl (rd_load one_int (ev_t rfl) (fun _ => B1.at_ rfl)) ?_
  refine sr_sub [(1, _, _), (2, _, _), (3, _, _), (9, _, _)] (sub_cons rfl (sub_cons rfl (sub_cons rfl (sub_cons rfl (sub_nil _))))) ?_
  refine sr_nil (hK4 _ _ ?_)
  refine sc_block ?_
  refine sc_seq fun K5 hK5 => ?_
  refine sc_seq fun K6 hK6 => ?_
  refine sc_text [3, 3] ?_
  refine sr_pu rfl (fun _ => rd_eq (ev_t rfl) ev_c) ?_
  refine sr_pu rfl (fun _ => rd_assign (ev_t rfl)) ?_
  refine sr_sub [(1, _, _), (2, _, _), (3, _, _), (9, _, _), (10, _, _)] (sub_cons rfl (sub_cons rfl (sub_cons rfl (sub_cons rfl (sub_cons rfl (sub_nil _)))))) ?_
  refine sr_nil (hK6 _ _ ?_)
  refine' sc_or [(1, _, _), (2, _, _), (3, _, _), (9, _, _)] (sub_cons rfl (sub_cons rfl (sub_cons rfl (sub_cons rfl (sub_cons rfl (sub_nil _)))))) rfl (fun hb1 => ?y1) (hK5 _ _ ?n1)
  case y1 =>
   refine sc_text [3, 3] ?_
   refine sr_pu rfl (fun _ => rd_eq (ev_t rfl) ev_c) ?_
   refine sr_pu rfl (fun _ => rd_assign (ev_t rfl)) ?_
   refine sr_sub [(10, _, _), (1, _, _), (2, _, _), (3, _, _), (9, _, _)] (sub_cons rfl (sub_cons rfl (sub_cons rfl (sub_cons rfl (sub_cons rfl (sub_nil _)))))) ?_
   exact sr_nil (fun a ha => ⟨ha, rfl⟩)
  case n1 =>
   refine sc_cond (ev_t rfl) (fun h2 => ?_) (fun h2 => ?_)
   · replace h2 : (anyK [9, 16] t.kind) = true := h2
     refine sc_seq fun K7 hK7 => ?_
     refine sc_text [3] ?_
     refine sr_pu rfl (fun _ => rd_assign ev_c) ?_
     refine sr_sub [(2, _, _)] (sub_cons rfl (sub_nil _)) ?_
     refine sr_nil (hK7 _ _ ?_)
     refine sc_ret (t_ret1 rfl rfl ?_)
     refine ⟨congrArg Value.bool ?_, g⟩
     unfold commB; simp only [h2, cond_true, cond_false] <;> rfl
   replace h2 : (anyK [9, 16] t.kind) = false := h2
   refine sc_seq fun K8 hK8 => ?_
   refine sc_seq fun K9 hK9 => ?_
   refine sc_text [3, 3] ?_
   refine sr_pu rfl (fun _ => rd_eq (ev_t rfl) ev_c) ?_
   refine sr_pu rfl (fun _ => rd_assign (ev_t rfl)) ?_
   refine sr_sub [(1, _, _), (2, _, _), (3, _, _), (9, _, _), (13, _, _)] (sub_cons rfl (sub_cons rfl (sub_cons rfl (sub_cons rfl (sub_cons rfl (sub_nil _)))))) ?_
   refine sr_nil (hK9 _ _ ?_)
   refine' sc_or [(1, _, _), (2, _, _), (3, _, _), (9, _, _)] (sub_cons rfl (sub_cons rfl (sub_cons rfl (sub_cons rfl (sub_cons rfl (sub_nil _)))))) rfl (fun hb3 => ?y3) (hK8 _ _ ?n3)
   case y3 =>
    refine sc_text [3, 3] ?_
    refine sr_pu rfl (fun _ => rd_eq (ev_t rfl) ev_c) ?_
    refine sr_pu rfl (fun _ => rd_assign (ev_t rfl)) ?_
    refine sr_sub [(13, _, _), (1, _, _), (2, _, _), (3, _, _), (9, _, _)] (sub_cons rfl (sub_cons rfl (sub_cons rfl (sub_cons rfl (sub_cons rfl (sub_nil _)))))) ?_
    exact sr_nil (fun a ha => ⟨ha, rfl⟩)
   case n3 =>
    refine sc_cond (ev_t rfl) (fun h4 => ?_) (fun h4 => ?_)
    · replace h4 : (anyK [13, 11] t.kind) = true := h4
      refine sc_seq fun K10 hK10 => ?_
      refine sc_text [3, 3, 3, 3, 0, 3, 3, 0, 3, 3, 3] ?_
      refine sr_pu rfl (fun _ => rd_move (ev_t rfl)) ?_
      refine sr_pu rfl (fun _ => rd_eq (ev_t rfl) ev_c) ?_
      refine sr_pu rfl (fun _ => rd_move (ev_t rfl)) ?_
      refine sr_pug rfl rfl rfl (fun _ => rd_field fo_api_Node_4 (ev_t rfl)) ?_
      refine sr_rdg rfl rfl rfl (rd_load one_sl_api_Node (ev_u rfl id) (fun _ => B1.at_ rfl)) ?_
      refine sr_pug rfl rfl rfl (fun _ => rd_idxq el_sl_api_Node (ev_u rfl id) ev_c (fun hc => by have := of_decide_eq_true hc.2; omega) (fun hc => (kd_opt hk (i := 0) (by have := of_decide_eq_true hc.2; omega)).1)) ?_
      refine sr_pug rfl rfl rfl (fun _ => rd_field fo_api_Node_0 (ev_u rfl id)) ?_
      refine sr_rdg rfl rfl rfl (rd_load one_int (ev_u rfl id) (fun hc => by
      obtain ⟨_, p', c', hcell, _⟩ := kd_opt hk (i := 0) (by have := of_decide_eq_true hc.2; omega)
      exact (hcell.grow g) 0 _ rfl)) ?_
      refine sr_pug rfl rfl rfl (fun _ => rd_eq (ev_u rfl id) ev_c) ?_
      refine sr_pu rfl (fun _ => rd_pick_and (ev_t rfl) (ev_u rfl id)) ?_
      refine sr_pu rfl (fun _ => rd_assign (ev_t rfl)) ?_
      refine sr_sub [(2, _, _)] (sub_cons rfl (sub_nil _)) ?_
      refine sr_nil (hK10 _ _ ?_)
      refine sc_ret (t_ret1 rfl rfl ?_)
      refine ⟨congrArg Value.bool ?_, g⟩
      unfold commB; simp only [h2, h4, cond_true, cond_false] <;> rfl
    replace h4 : (anyK [13, 11] t.kind) = false := h4
    refine sc_seq fun K11 hK11 => ?_
    refine sc_text [3, 3] ?_
    refine sr_pu rfl (fun _ => rd_eq (ev_t rfl) ev_c) ?_
    refine sr_pu rfl (fun _ => rd_assign (ev_t rfl)) ?_
    refine sr_sub [(1, _, _), (2, _, _), (3, _, _), (26, _, _)] (sub_cons rfl (sub_cons rfl (sub_cons rfl (sub_cons rfl (sub_nil _))))) ?_
    refine sr_nil (hK11 _ _ ?_)
    refine sc_cond (ev_t rfl) (fun h5 => ?_) (fun h5 => ?_)
    · (try simp only [bsimp] at h5)
      refine sc_seq fun K12 hK12 => ?_
      refine sc_text [3, 3, 3, 3, 0, 3, 3, 0, 3, 3, 3] ?_
      refine sr_pu rfl (fun _ => rd_move (ev_t rfl)) ?_
      refine sr_pu rfl (fun _ => rd_eq (ev_t rfl) ev_c) ?_
      refine sr_pu rfl (fun _ => rd_move (ev_t rfl)) ?_
      refine sr_pug rfl rfl rfl (fun _ => rd_field fo_api_Node_4 (ev_t rfl)) ?_
      refine sr_rdg rfl rfl rfl (rd_load one_sl_api_Node (ev_u rfl id) (fun _ => B1.at_ rfl)) ?_
      refine sr_pug rfl rfl rfl (fun _ => rd_idxq el_sl_api_Node (ev_u rfl id) ev_c (fun hc => by have := of_decide_eq_true hc.2; omega) (fun hc => (kd_opt hk (i := 1) (by have := of_decide_eq_true hc.2; omega)).1)) ?_
      refine sr_pug rfl rfl rfl (fun _ => rd_field fo_api_Node_0 (ev_u rfl id)) ?_
      refine sr_rdg rfl rfl rfl (rd_load one_int (ev_u rfl id) (fun hc => by
      obtain ⟨_, p', c', hcell, _⟩ := kd_opt hk (i := 1) (by have := of_decide_eq_true hc.2; omega)
      exact (hcell.grow g) 0 _ rfl)) ?_
      refine sr_pug rfl rfl rfl (fun _ => rd_eq (ev_u rfl id) ev_c) ?_
      refine sr_pu rfl (fun _ => rd_pick_and (ev_t rfl) (ev_u rfl id)) ?_
      refine sr_pu rfl (fun _ => rd_assign (ev_t rfl)) ?_
      refine sr_sub [(2, _, _)] (sub_cons rfl (sub_nil _)) ?_
      refine sr_nil (hK12 _ _ ?_)
      refine sc_ret (t_ret1 rfl rfl ?_)
      refine ⟨congrArg Value.bool ?_, g⟩
      unfold commB; simp only [h2, h4, h5, cond_true, cond_false] <;> rfl
    (try simp only [bsimp] at h5)
    refine sc_skip (hK3 _ _ ?_)
    refine sc_sub [(2, _, _)] (sub_cons rfl (sub_nil _)) ?_
    refine sc_seq fun K13 hK13 => ?_
    refine sc_text [3] ?_
    refine sr_pu rfl (fun _ => rd_assign ev_c) ?_
    refine sr_nil (hK13 _ _ ?_)
    refine sc_ret (t_ret1 rfl rfl ?_)
    refine ⟨congrArg Value.bool ?_, g⟩
    unfold commB; simp only [h2, h4, h5, cond_true, cond_false] <;> rfl
def textB' (t : Nd) : Bool := bif anyK [2, 3, 4, 6, 11, 28, 27, 34, 8] t.kind then nameB t.text
  else bif decide (t.kind = 31) then decide (t.text = [45]) || decide (t.text = [33])
  else bif decide (t.kind = 32) then anyS binOps t.text
  else bif decide (t.kind = 7) then typeNameB t.text
  else decide (t.text = [])
theorem stext_ok (t : Nd) (p : Option Addr) (c : Nat) (w : World) (hL : Laid w) (hb3 : 4 ≤ w.heap.size) : Ret PP fn_syntax_text #[ndV t (.slice p t.kids.length c)] w fun v w' => v = .bool (textB' t) ∧ G w w' := by
  have g := G.refl w
  refine ret_of_sc (m := 64) func_syntax_text rfl rfl [(0, True, _)] (sub_cons rfl (sub_nil _)) ?_
  refine sc_seq fun K1 hK1 => ?_
  refine sc_text [1, 3] ?_
  refine sr_box rfl (ev_t rfl) rfl ?_
  intro b1 w1 N1
  have l1 := N1.ge g
  have g := g.trans (N1.g)
  have B1 := N1.blk
  refine sr_pu rfl (fun _ => rd_assign ev_c) ?_
  refine sr_sub [(1, _, _), (2, _, _)] (sub_cons rfl (sub_cons rfl (sub_nil _))) ?_
  refine sr_nil (hK1 _ _ ?_)
  refine sc_seq fun K2 hK2 => ?_
  refine sc_seq fun K3 hK3 => ?_
  refine sc_text [3, 0] ?_
  refine sr_pu rfl (fun _ => rd_field fo_api_Node_0 (ev_t rfl)) ?_
  refine sr_rd rfl (rd_load one_int (ev_t rfl) (fun _ => B1.at_ rfl)) ?_
  refine sr_sub [(1, _, _), (2, _, _), (4, _, _)] (sub_cons rfl (sub_cons rfl (sub_cons rfl (sub_nil _)))) ?_
  refine sr_nil (hK3 _ _ ?_)
  refine sc_block ?_
  refine sc_seq fun K4 hK4 => ?_
  refine sc_seq fun K5 hK5 => ?_
  refine sc_text [3, 3] ?_
  refine sr_pu rfl (fun _ => rd_eq (ev_t rfl) ev_c) ?_
  refine sr_pu rfl (fun _ => rd_assign (ev_t rfl)) ?_
  refine sr_sub [(1, _, _), (2, _, _), (4, _, _), (5, _, _)] (sub_cons rfl (sub_cons rfl (sub_cons rfl (sub_cons rfl (sub_nil _))))) ?_
  refine sr_nil (hK5 _ _ ?_)
  refine' sc_or [(1, _, _), (2, _, _), (4, _, _)] (sub_cons rfl (sub_cons rfl (sub_cons rfl (sub_cons rfl (sub_nil _))))) rfl (fun hb1 => ?y1) (hK4 _ _ ?n1)
  case y1 =>
   refine sc_seq fun K6 hK6 => ?_
   refine sc_text [3, 3] ?_
   refine sr_pu rfl (fun _ => rd_eq (ev_t rfl) ev_c) ?_
   refine sr_pu rfl (fun _ => rd_assign (ev_t rfl)) ?_
   refine sr_sub [(1, _, _), (2, _, _), (4, _, _), (5, _, _)] (sub_cons rfl (sub_cons rfl (sub_cons rfl (sub_cons rfl (sub_nil _))))) ?_
   refine sr_nil (hK6 _ _ ?_)
   refine' sc_or [(1, _, _), (2, _, _), (4, _, _)] (sub_cons rfl (sub_cons rfl (sub_cons rfl (sub_cons rfl (sub_nil _))))) rfl (fun hb2 => ?y2) (fun a ha => ⟨ha, rfl⟩)
   case y2 =>
    refine sc_seq fun K7 hK7 => ?_
    refine sc_text [3, 3] ?_
    refine sr_pu rfl (fun _ => rd_eq (ev_t rfl) ev_c) ?_
    refine sr_pu rfl (fun _ => rd_assign (ev_t rfl)) ?_
    refine sr_sub [(1, _, _), (2, _, _), (4, _, _), (5, _, _)] (sub_cons rfl (sub_cons rfl (sub_cons rfl (sub_cons rfl (sub_nil _))))) ?_
    refine sr_nil (hK7 _ _ ?_)
    refine' sc_or [(1, _, _), (2, _, _), (4, _, _)] (sub_cons rfl (sub_cons rfl (sub_cons rfl (sub_cons rfl (sub_nil _))))) rfl (fun hb3 => ?y3) (fun a ha => ⟨ha, rfl⟩)
    case y3 =>
     refine sc_seq fun K8 hK8 => ?_
     refine sc_text [3, 3] ?_
     refine sr_pu rfl (fun _ => rd_eq (ev_t rfl) ev_c) ?_
     refine sr_pu rfl (fun _ => rd_assign (ev_t rfl)) ?_
     refine sr_sub [(1, _, _), (2, _, _), (4, _, _), (5, _, _)] (sub_cons rfl (sub_cons rfl (sub_cons rfl (sub_cons rfl (sub_nil _))))) ?_
     refine sr_nil (hK8 _ _ ?_)
     refine' sc_or [(1, _, _), (2, _, _), (4, _, _)] (sub_cons rfl (sub_cons rfl (sub_cons rfl (sub_cons rfl (sub_nil _))))) rfl (fun hb4 => ?y4) (fun a ha => ⟨ha, rfl⟩)
     case y4 =>
      refine sc_seq fun K9 hK9 => ?_
      refine sc_text [3, 3] ?_
      refine sr_pu rfl (fun _ => rd_eq (ev_t rfl) ev_c) ?_
      refine sr_pu rfl (fun _ => rd_assign (ev_t rfl)) ?_
      refine sr_sub [(1, _, _), (2, _, _), (4, _, _), (5, _, _)] (sub_cons rfl (sub_cons rfl (sub_cons rfl (sub_cons rfl (sub_nil _))))) ?_
      refine sr_nil (hK9 _ _ ?_)
      refine' sc_or [(1, _, _), (2, _, _), (4, _, _)] (sub_cons rfl (sub_cons rfl (sub_cons rfl (sub_cons rfl (sub_nil _))))) rfl (fun hb5 => ?y5) (fun a ha => ⟨ha, rfl⟩)
      case y5 =>
       refine sc_seq fun K10 hK10 => ?_
       refine sc_text [3, 3] ?_
       refine sr_pu rfl (fun _ => rd_eq (ev_t rfl) ev_c) ?_
       refine sr_pu rfl (fun _ => rd_assign (ev_t rfl)) ?_
       refine sr_sub [(1, _, _), (2, _, _), (4, _, _), (5, _, _)] (sub_cons rfl (sub_cons rfl (sub_cons rfl (sub_cons rfl (sub_nil _))))) ?_
       refine sr_nil (hK10 _ _ ?_)
       refine' sc_or [(1, _, _), (2, _, _), (4, _, _)] (sub_cons rfl (sub_cons rfl (sub_cons rfl (sub_cons rfl (sub_nil _))))) rfl (fun hb6 => ?y6) (fun a ha => ⟨ha, rfl⟩)
       case y6 =>
        refine sc_seq fun K11 hK11 => ?_
        refine sc_text [3, 3] ?_
        refine sr_pu rfl (fun _ => rd_eq (ev_t rfl) ev_c) ?_
        refine sr_pu rfl (fun _ => rd_assign (ev_t rfl)) ?_
        refine sr_sub [(1, _, _), (2, _, _), (4, _, _), (5, _, _)] (sub_cons rfl (sub_cons rfl (sub_cons rfl (sub_cons rfl (sub_nil _))))) ?_
        refine sr_nil (hK11 _ _ ?_)
        refine' sc_or [(1, _, _), (2, _, _), (4, _, _)] (sub_cons rfl (sub_cons rfl (sub_cons rfl (sub_cons rfl (sub_nil _))))) rfl (fun hb7 => ?y7) (fun a ha => ⟨ha, rfl⟩)
        case y7 =>
         refine sc_seq fun K12 hK12 => ?_
         refine sc_text [3, 3] ?_
         refine sr_pu rfl (fun _ => rd_eq (ev_t rfl) ev_c) ?_
         refine sr_pu rfl (fun _ => rd_assign (ev_t rfl)) ?_
         refine sr_sub [(1, _, _), (2, _, _), (4, _, _), (5, _, _)] (sub_cons rfl (sub_cons rfl (sub_cons rfl (sub_cons rfl (sub_nil _))))) ?_
         refine sr_nil (hK12 _ _ ?_)
         refine' sc_or [(1, _, _), (2, _, _), (4, _, _)] (sub_cons rfl (sub_cons rfl (sub_cons rfl (sub_cons rfl (sub_nil _))))) rfl (fun hb8 => ?y8) (fun a ha => ⟨ha, rfl⟩)
         case y8 =>
          refine sc_text [3, 3] ?_
          refine sr_pu rfl (fun _ => rd_eq (ev_t rfl) ev_c) ?_
          refine sr_pu rfl (fun _ => rd_assign (ev_t rfl)) ?_
          refine sr_sub [(5, _, _), (1, _, _), (2, _, _), (4, _, _)] (sub_cons rfl (sub_cons rfl (sub_cons rfl (sub_cons rfl (sub_nil _))))) ?_
          exact sr_nil (fun a ha => ⟨ha, rfl⟩)
  case n1 =>
   refine sc_cond (ev_t rfl) (fun h9 => ?_) (fun h9 => ?_)
   · replace h9 : (anyK [2, 3, 4, 6, 11, 28, 27, 34, 8] t.kind) = true := h9
     refine sc_seq fun K13 hK13 => ?_
     refine sc_text [3, 0, 1, 3] ?_
     refine sr_pu rfl (fun _ => rd_field fo_api_Node_1 (ev_t rfl)) ?_
     refine sr_rd rfl (rd_load one_string (ev_t rfl) (fun _ => B1.at_ rfl)) ?_
     refine sr_pure rfl (rc_call go_syntax_name ev_f (args_cons (ev_t rfl) (args_nil)) rfl) (synname_ok _ _ (hL.grow g) (by have := g.size; omega)) (fun w17 g17 => ?_)
     have g := g.trans (g17)
     replace B1 := B1.grow (g17)
     refine sr_pu rfl (fun _ => rd_assign (ev_t rfl)) ?_
     refine sr_sub [(1, _, _), (2, _, _)] (sub_cons rfl (sub_cons rfl (sub_nil _))) ?_
     refine sr_nil (hK13 _ _ ?_)
     refine sc_ret (t_ret1 rfl rfl ?_)
     refine ⟨congrArg Value.bool ?_, g⟩
     unfold textB'; simp only [binOps, typeNameB, typeNames, anyS, h9, cond_true, cond_false] <;> rfl
   replace h9 : (anyK [2, 3, 4, 6, 11, 28, 27, 34, 8] t.kind) = false := h9
   refine sc_seq fun K14 hK14 => ?_
   refine sc_text [3, 3] ?_
   refine sr_pu rfl (fun _ => rd_eq (ev_t rfl) ev_c) ?_
   refine sr_pu rfl (fun _ => rd_assign (ev_t rfl)) ?_
   refine sr_sub [(1, _, _), (2, _, _), (4, _, _), (18, _, _)] (sub_cons rfl (sub_cons rfl (sub_cons rfl (sub_cons rfl (sub_nil _))))) ?_
   refine sr_nil (hK14 _ _ ?_)
   refine sc_cond (ev_t rfl) (fun h10 => ?_) (fun h10 => ?_)
   · (try simp only [bsimp] at h10)
     refine sc_seq fun K15 hK15 => ?_
     refine sc_text [3, 0, 3, 3, 3, 0, 3, 3, 3] ?_
     refine sr_pu rfl (fun _ => rd_field fo_api_Node_1 (ev_t rfl)) ?_
     refine sr_rd rfl (rd_load one_string (ev_t rfl) (fun _ => B1.at_ rfl)) ?_
     refine sr_pu rfl (fun _ => rd_seq (ev_t rfl) ev_c) ?_
     refine sr_pu rfl (fun _ => rd_move (ev_t rfl)) ?_
     refine sr_pug rfl rfl rfl (fun _ => rd_field fo_api_Node_1 (ev_t rfl)) ?_
     refine sr_rdg rfl rfl rfl (rd_load one_string (ev_u rfl id) (fun _ => B1.at_ rfl)) ?_
     refine sr_pug rfl rfl rfl (fun _ => rd_seq (ev_u rfl id) ev_c) ?_
     refine sr_pu rfl (fun _ => rd_pick_or (ev_t rfl) (ev_u rfl id)) ?_
     refine sr_pu rfl (fun _ => rd_assign (ev_t rfl)) ?_
     refine sr_sub [(1, _, _), (2, _, _)] (sub_cons rfl (sub_cons rfl (sub_nil _))) ?_
     refine sr_nil (hK15 _ _ ?_)
     refine sc_ret (t_ret1 rfl rfl ?_)
     refine ⟨congrArg Value.bool ?_, g⟩
     unfold textB'; simp only [binOps, typeNameB, typeNames, anyS, h9, h10, cond_true, cond_false] <;> rfl
   (try simp only [bsimp] at h10)
   refine sc_seq fun K16 hK16 => ?_
   refine sc_text [3, 3] ?_
   refine sr_pu rfl (fun _ => rd_eq (ev_t rfl) ev_c) ?_
   refine sr_pu rfl (fun _ => rd_assign (ev_t rfl)) ?_
   refine sr_sub [(1, _, _), (2, _, _), (4, _, _), (28, _, _)] (sub_cons rfl (sub_cons rfl (sub_cons rfl (sub_cons rfl (sub_nil _))))) ?_
   refine sr_nil (hK16 _ _ ?_)
   refine sc_cond (ev_t rfl) (fun h11 => ?_) (fun h11 => ?_)
   · (try simp only [bsimp] at h11)
     refine sc_seq fun K17 hK17 => ?_
     refine sc_seq fun K18 hK18 => ?_
     refine sc_text [3, 0] ?_
     refine sr_pu rfl (fun _ => rd_field fo_api_Node_1 (ev_t rfl)) ?_
     refine sr_rd rfl (rd_load one_string (ev_t rfl) (fun _ => B1.at_ rfl)) ?_
     refine sr_sub [(1, _, _), (2, _, _), (31, _, _)] (sub_cons rfl (sub_cons rfl (sub_cons rfl (sub_nil _)))) ?_
     refine sr_nil (hK18 _ _ ?_)
     refine sc_block ?_
     refine sc_seq fun K19 hK19 => ?_
     refine sc_seq fun K20 hK20 => ?_
     refine sc_text [3, 3] ?_
     refine sr_pu rfl (fun _ => rd_seq (ev_t rfl) ev_c) ?_
     refine sr_pu rfl (fun _ => rd_assign (ev_t rfl)) ?_
     refine sr_sub [(1, _, _), (2, _, _), (31, _, _), (32, _, _)] (sub_cons rfl (sub_cons rfl (sub_cons rfl (sub_cons rfl (sub_nil _))))) ?_
     refine sr_nil (hK20 _ _ ?_)
     refine' sc_or [(1, _, _), (2, _, _)] (sub_cons rfl (sub_cons rfl (sub_cons rfl (sub_nil _)))) rfl (fun hb12 => ?y12) (hK19 _ _ ?n12)
     case y12 =>
      refine sc_seq fun K21 hK21 => ?_
      refine sc_text [3, 3] ?_
      refine sr_pu rfl (fun _ => rd_seq (ev_t rfl) ev_c) ?_
      refine sr_pu rfl (fun _ => rd_assign (ev_t rfl)) ?_
      refine sr_sub [(1, _, _), (2, _, _), (31, _, _), (32, _, _)] (sub_cons rfl (sub_cons rfl (sub_cons rfl (sub_cons rfl (sub_nil _))))) ?_
      refine sr_nil (hK21 _ _ ?_)
      refine' sc_or [(1, _, _), (2, _, _)] (sub_cons rfl (sub_cons rfl (sub_cons rfl (sub_nil _)))) rfl (fun hb13 => ?y13) (fun a ha => ⟨ha, rfl⟩)
      case y13 =>
       refine sc_seq fun K22 hK22 => ?_
       refine sc_text [3, 3] ?_
       refine sr_pu rfl (fun _ => rd_seq (ev_t rfl) ev_c) ?_
       refine sr_pu rfl (fun _ => rd_assign (ev_t rfl)) ?_
       refine sr_sub [(1, _, _), (2, _, _), (31, _, _), (32, _, _)] (sub_cons rfl (sub_cons rfl (sub_cons rfl (sub_cons rfl (sub_nil _))))) ?_
       refine sr_nil (hK22 _ _ ?_)
       refine' sc_or [(1, _, _), (2, _, _)] (sub_cons rfl (sub_cons rfl (sub_cons rfl (sub_nil _)))) rfl (fun hb14 => ?y14) (fun a ha => ⟨ha, rfl⟩)
       case y14 =>
        refine sc_seq fun K23 hK23 => ?_
        refine sc_text [3, 3] ?_
        refine sr_pu rfl (fun _ => rd_seq (ev_t rfl) ev_c) ?_
        refine sr_pu rfl (fun _ => rd_assign (ev_t rfl)) ?_
        refine sr_sub [(1, _, _), (2, _, _), (31, _, _), (32, _, _)] (sub_cons rfl (sub_cons rfl (sub_cons rfl (sub_cons rfl (sub_nil _))))) ?_
        refine sr_nil (hK23 _ _ ?_)
        refine' sc_or [(1, _, _), (2, _, _)] (sub_cons rfl (sub_cons rfl (sub_cons rfl (sub_nil _)))) rfl (fun hb15 => ?y15) (fun a ha => ⟨ha, rfl⟩)
        case y15 =>
         refine sc_seq fun K24 hK24 => ?_
         refine sc_text [3, 3] ?_
         refine sr_pu rfl (fun _ => rd_seq (ev_t rfl) ev_c) ?_
         refine sr_pu rfl (fun _ => rd_assign (ev_t rfl)) ?_
         refine sr_sub [(1, _, _), (2, _, _), (31, _, _), (32, _, _)] (sub_cons rfl (sub_cons rfl (sub_cons rfl (sub_cons rfl (sub_nil _))))) ?_
         refine sr_nil (hK24 _ _ ?_)
         refine' sc_or [(1, _, _), (2, _, _)] (sub_cons rfl (sub_cons rfl (sub_cons rfl (sub_nil _)))) rfl (fun hb16 => ?y16) (fun a ha => ⟨ha, rfl⟩)
         case y16 =>
          refine sc_seq fun K25 hK25 => ?_
          refine sc_text [3, 3] ?_
          refine sr_pu rfl (fun _ => rd_seq (ev_t rfl) ev_c) ?_
          refine sr_pu rfl (fun _ => rd_assign (ev_t rfl)) ?_
          refine sr_sub [(1, _, _), (2, _, _), (31, _, _), (32, _, _)] (sub_cons rfl (sub_cons rfl (sub_cons rfl (sub_cons rfl (sub_nil _))))) ?_
          refine sr_nil (hK25 _ _ ?_)
          refine' sc_or [(1, _, _), (2, _, _)] (sub_cons rfl (sub_cons rfl (sub_cons rfl (sub_nil _)))) rfl (fun hb17 => ?y17) (fun a ha => ⟨ha, rfl⟩)
          case y17 =>
           refine sc_seq fun K26 hK26 => ?_
           refine sc_text [3, 3] ?_
           refine sr_pu rfl (fun _ => rd_seq (ev_t rfl) ev_c) ?_
           refine sr_pu rfl (fun _ => rd_assign (ev_t rfl)) ?_
           refine sr_sub [(1, _, _), (2, _, _), (31, _, _), (32, _, _)] (sub_cons rfl (sub_cons rfl (sub_cons rfl (sub_cons rfl (sub_nil _))))) ?_
           refine sr_nil (hK26 _ _ ?_)
           refine' sc_or [(1, _, _), (2, _, _)] (sub_cons rfl (sub_cons rfl (sub_cons rfl (sub_nil _)))) rfl (fun hb18 => ?y18) (fun a ha => ⟨ha, rfl⟩)
           case y18 =>
            refine sc_seq fun K27 hK27 => ?_
            refine sc_text [3, 3] ?_
            refine sr_pu rfl (fun _ => rd_seq (ev_t rfl) ev_c) ?_
            refine sr_pu rfl (fun _ => rd_assign (ev_t rfl)) ?_
            refine sr_sub [(1, _, _), (2, _, _), (31, _, _), (32, _, _)] (sub_cons rfl (sub_cons rfl (sub_cons rfl (sub_cons rfl (sub_nil _))))) ?_
            refine sr_nil (hK27 _ _ ?_)
            refine' sc_or [(1, _, _), (2, _, _)] (sub_cons rfl (sub_cons rfl (sub_cons rfl (sub_nil _)))) rfl (fun hb19 => ?y19) (fun a ha => ⟨ha, rfl⟩)
            case y19 =>
             refine sc_seq fun K28 hK28 => ?_
             refine sc_text [3, 3] ?_
             refine sr_pu rfl (fun _ => rd_seq (ev_t rfl) ev_c) ?_
             refine sr_pu rfl (fun _ => rd_assign (ev_t rfl)) ?_
             refine sr_sub [(1, _, _), (2, _, _), (31, _, _), (32, _, _)] (sub_cons rfl (sub_cons rfl (sub_cons rfl (sub_cons rfl (sub_nil _))))) ?_
             refine sr_nil (hK28 _ _ ?_)
             refine' sc_or [(1, _, _), (2, _, _)] (sub_cons rfl (sub_cons rfl (sub_cons rfl (sub_nil _)))) rfl (fun hb20 => ?y20) (fun a ha => ⟨ha, rfl⟩)
             case y20 =>
              refine sc_seq fun K29 hK29 => ?_
              refine sc_text [3, 3] ?_
              refine sr_pu rfl (fun _ => rd_seq (ev_t rfl) ev_c) ?_
              refine sr_pu rfl (fun _ => rd_assign (ev_t rfl)) ?_
              refine sr_sub [(1, _, _), (2, _, _), (31, _, _), (32, _, _)] (sub_cons rfl (sub_cons rfl (sub_cons rfl (sub_cons rfl (sub_nil _))))) ?_
              refine sr_nil (hK29 _ _ ?_)
              refine' sc_or [(1, _, _), (2, _, _)] (sub_cons rfl (sub_cons rfl (sub_cons rfl (sub_nil _)))) rfl (fun hb21 => ?y21) (fun a ha => ⟨ha, rfl⟩)
              case y21 =>
               refine sc_seq fun K30 hK30 => ?_
               refine sc_text [3, 3] ?_
               refine sr_pu rfl (fun _ => rd_seq (ev_t rfl) ev_c) ?_
               refine sr_pu rfl (fun _ => rd_assign (ev_t rfl)) ?_
               refine sr_sub [(1, _, _), (2, _, _), (31, _, _), (32, _, _)] (sub_cons rfl (sub_cons rfl (sub_cons rfl (sub_cons rfl (sub_nil _))))) ?_
               refine sr_nil (hK30 _ _ ?_)
               refine' sc_or [(1, _, _), (2, _, _)] (sub_cons rfl (sub_cons rfl (sub_cons rfl (sub_nil _)))) rfl (fun hb22 => ?y22) (fun a ha => ⟨ha, rfl⟩)
               case y22 =>
                refine sc_seq fun K31 hK31 => ?_
                refine sc_text [3, 3] ?_
                refine sr_pu rfl (fun _ => rd_seq (ev_t rfl) ev_c) ?_
                refine sr_pu rfl (fun _ => rd_assign (ev_t rfl)) ?_
                refine sr_sub [(1, _, _), (2, _, _), (31, _, _), (32, _, _)] (sub_cons rfl (sub_cons rfl (sub_cons rfl (sub_cons rfl (sub_nil _))))) ?_
                refine sr_nil (hK31 _ _ ?_)
                refine' sc_or [(1, _, _), (2, _, _)] (sub_cons rfl (sub_cons rfl (sub_cons rfl (sub_nil _)))) rfl (fun hb23 => ?y23) (fun a ha => ⟨ha, rfl⟩)
                case y23 =>
                 refine sc_text [3, 3] ?_
                 refine sr_pu rfl (fun _ => rd_seq (ev_t rfl) ev_c) ?_
                 refine sr_pu rfl (fun _ => rd_assign (ev_t rfl)) ?_
                 refine sr_sub [(32, _, _), (1, _, _), (2, _, _)] (sub_cons rfl (sub_cons rfl (sub_cons rfl (sub_nil _)))) ?_
                 exact sr_nil (fun a ha => ⟨ha, rfl⟩)
     case n12 =>
      refine sc_cond (ev_t rfl) (fun h24 => ?_) (fun h24 => ?_)
      · (try simp only [bsimp] at h24)
        refine sc_seq fun K32 hK32 => ?_
        refine sc_text [3] ?_
        refine sr_pu rfl (fun _ => rd_assign ev_c) ?_
        refine sr_sub [(1, _, _), (2, _, _)] (sub_cons rfl (sub_cons rfl (sub_nil _))) ?_
        refine sr_nil (hK32 _ _ ?_)
        refine sc_ret (t_ret1 rfl rfl ?_)
        refine ⟨congrArg Value.bool ?_, g⟩
        unfold textB'; simp only [binOps, typeNameB, typeNames, anyS, h9, h10, h11, h24, cond_true, cond_false] <;> rfl
      (try simp only [bsimp] at h24)
      refine sc_skip (hK17 _ _ ?_)
      refine sc_sub [(1, _, _), (2, _, _)] (sub_cons rfl (sub_cons rfl (sub_nil _))) ?_
      refine sc_seq fun K33 hK33 => ?_
      refine sc_text [3] ?_
      refine sr_pu rfl (fun _ => rd_assign ev_c) ?_
      refine sr_nil (hK33 _ _ ?_)
      refine sc_ret (t_ret1 rfl rfl ?_)
      refine ⟨congrArg Value.bool ?_, g⟩
      unfold textB'; simp only [binOps, typeNameB, typeNames, anyS, h9, h10, h11, h24, cond_true, cond_false] <;> rfl
   (try simp only [bsimp] at h11)
   refine sc_seq fun K34 hK34 => ?_
   refine sc_text [3, 3] ?_
   refine sr_pu rfl (fun _ => rd_eq (ev_t rfl) ev_c) ?_
   refine sr_pu rfl (fun _ => rd_assign (ev_t rfl)) ?_
   refine sr_sub [(1, _, _), (2, _, _), (46, _, _)] (sub_cons rfl (sub_cons rfl (sub_cons rfl (sub_nil _)))) ?_
   refine sr_nil (hK34 _ _ ?_)
   refine sc_cond (ev_t rfl) (fun h25 => ?_) (fun h25 => ?_)
   · (try simp only [bsimp] at h25)
     refine sc_seq fun K35 hK35 => ?_
     refine sc_seq fun K36 hK36 => ?_
     refine sc_text [3, 0] ?_
     refine sr_pu rfl (fun _ => rd_field fo_api_Node_1 (ev_t rfl)) ?_
     refine sr_rd rfl (rd_load one_string (ev_t rfl) (fun _ => B1.at_ rfl)) ?_
     refine sr_sub [(1, _, _), (2, _, _), (49, _, _)] (sub_cons rfl (sub_cons rfl (sub_cons rfl (sub_nil _)))) ?_
     refine sr_nil (hK36 _ _ ?_)
     refine sc_block ?_
     refine sc_seq fun K37 hK37 => ?_
     refine sc_seq fun K38 hK38 => ?_
     refine sc_text [3, 3] ?_
     refine sr_pu rfl (fun _ => rd_seq (ev_t rfl) ev_c) ?_
     refine sr_pu rfl (fun _ => rd_assign (ev_t rfl)) ?_
     refine sr_sub [(1, _, _), (2, _, _), (49, _, _), (50, _, _)] (sub_cons rfl (sub_cons rfl (sub_cons rfl (sub_cons rfl (sub_nil _))))) ?_
     refine sr_nil (hK38 _ _ ?_)
     refine' sc_or [(1, _, _), (2, _, _)] (sub_cons rfl (sub_cons rfl (sub_cons rfl (sub_nil _)))) rfl (fun hb26 => ?y26) (hK37 _ _ ?n26)
     case y26 =>
      refine sc_seq fun K39 hK39 => ?_
      refine sc_text [3, 3] ?_
      refine sr_pu rfl (fun _ => rd_seq (ev_t rfl) ev_c) ?_
      refine sr_pu rfl (fun _ => rd_assign (ev_t rfl)) ?_
      refine sr_sub [(1, _, _), (2, _, _), (49, _, _), (50, _, _)] (sub_cons rfl (sub_cons rfl (sub_cons rfl (sub_cons rfl (sub_nil _))))) ?_
      refine sr_nil (hK39 _ _ ?_)
      refine' sc_or [(1, _, _), (2, _, _)] (sub_cons rfl (sub_cons rfl (sub_cons rfl (sub_nil _)))) rfl (fun hb27 => ?y27) (fun a ha => ⟨ha, rfl⟩)
      case y27 =>
       refine sc_seq fun K40 hK40 => ?_
       refine sc_text [3, 3] ?_
       refine sr_pu rfl (fun _ => rd_seq (ev_t rfl) ev_c) ?_
       refine sr_pu rfl (fun _ => rd_assign (ev_t rfl)) ?_
       refine sr_sub [(1, _, _), (2, _, _), (49, _, _), (50, _, _)] (sub_cons rfl (sub_cons rfl (sub_cons rfl (sub_cons rfl (sub_nil _))))) ?_
       refine sr_nil (hK40 _ _ ?_)
       refine' sc_or [(1, _, _), (2, _, _)] (sub_cons rfl (sub_cons rfl (sub_cons rfl (sub_nil _)))) rfl (fun hb28 => ?y28) (fun a ha => ⟨ha, rfl⟩)
       case y28 =>
        refine sc_seq fun K41 hK41 => ?_
        refine sc_text [3, 3] ?_
        refine sr_pu rfl (fun _ => rd_seq (ev_t rfl) ev_c) ?_
        refine sr_pu rfl (fun _ => rd_assign (ev_t rfl)) ?_
        refine sr_sub [(1, _, _), (2, _, _), (49, _, _), (50, _, _)] (sub_cons rfl (sub_cons rfl (sub_cons rfl (sub_cons rfl (sub_nil _))))) ?_
        refine sr_nil (hK41 _ _ ?_)
        refine' sc_or [(1, _, _), (2, _, _)] (sub_cons rfl (sub_cons rfl (sub_cons rfl (sub_nil _)))) rfl (fun hb29 => ?y29) (fun a ha => ⟨ha, rfl⟩)
        case y29 =>
         refine sc_seq fun K42 hK42 => ?_
         refine sc_text [3, 3] ?_
         refine sr_pu rfl (fun _ => rd_seq (ev_t rfl) ev_c) ?_
         refine sr_pu rfl (fun _ => rd_assign (ev_t rfl)) ?_
         refine sr_sub [(1, _, _), (2, _, _), (49, _, _), (50, _, _)] (sub_cons rfl (sub_cons rfl (sub_cons rfl (sub_cons rfl (sub_nil _))))) ?_
         refine sr_nil (hK42 _ _ ?_)
         refine' sc_or [(1, _, _), (2, _, _)] (sub_cons rfl (sub_cons rfl (sub_cons rfl (sub_nil _)))) rfl (fun hb30 => ?y30) (fun a ha => ⟨ha, rfl⟩)
         case y30 =>
          refine sc_seq fun K43 hK43 => ?_
          refine sc_text [3, 3] ?_
          refine sr_pu rfl (fun _ => rd_seq (ev_t rfl) ev_c) ?_
          refine sr_pu rfl (fun _ => rd_assign (ev_t rfl)) ?_
          refine sr_sub [(1, _, _), (2, _, _), (49, _, _), (50, _, _)] (sub_cons rfl (sub_cons rfl (sub_cons rfl (sub_cons rfl (sub_nil _))))) ?_
          refine sr_nil (hK43 _ _ ?_)
          refine' sc_or [(1, _, _), (2, _, _)] (sub_cons rfl (sub_cons rfl (sub_cons rfl (sub_nil _)))) rfl (fun hb31 => ?y31) (fun a ha => ⟨ha, rfl⟩)
          case y31 =>
           refine sc_seq fun K44 hK44 => ?_
           refine sc_text [3, 3] ?_
           refine sr_pu rfl (fun _ => rd_seq (ev_t rfl) ev_c) ?_
           refine sr_pu rfl (fun _ => rd_assign (ev_t rfl)) ?_
           refine sr_sub [(1, _, _), (2, _, _), (49, _, _), (50, _, _)] (sub_cons rfl (sub_cons rfl (sub_cons rfl (sub_cons rfl (sub_nil _))))) ?_
           refine sr_nil (hK44 _ _ ?_)
           refine' sc_or [(1, _, _), (2, _, _)] (sub_cons rfl (sub_cons rfl (sub_cons rfl (sub_nil _)))) rfl (fun hb32 => ?y32) (fun a ha => ⟨ha, rfl⟩)
           case y32 =>
            refine sc_seq fun K45 hK45 => ?_
            refine sc_text [3, 3] ?_
            refine sr_pu rfl (fun _ => rd_seq (ev_t rfl) ev_c) ?_
            refine sr_pu rfl (fun _ => rd_assign (ev_t rfl)) ?_
            refine sr_sub [(1, _, _), (2, _, _), (49, _, _), (50, _, _)] (sub_cons rfl (sub_cons rfl (sub_cons rfl (sub_cons rfl (sub_nil _))))) ?_
            refine sr_nil (hK45 _ _ ?_)
            refine' sc_or [(1, _, _), (2, _, _)] (sub_cons rfl (sub_cons rfl (sub_cons rfl (sub_nil _)))) rfl (fun hb33 => ?y33) (fun a ha => ⟨ha, rfl⟩)
            case y33 =>
             refine sc_seq fun K46 hK46 => ?_
             refine sc_text [3, 3] ?_
             refine sr_pu rfl (fun _ => rd_seq (ev_t rfl) ev_c) ?_
             refine sr_pu rfl (fun _ => rd_assign (ev_t rfl)) ?_
             refine sr_sub [(1, _, _), (2, _, _), (49, _, _), (50, _, _)] (sub_cons rfl (sub_cons rfl (sub_cons rfl (sub_cons rfl (sub_nil _))))) ?_
             refine sr_nil (hK46 _ _ ?_)
             refine' sc_or [(1, _, _), (2, _, _)] (sub_cons rfl (sub_cons rfl (sub_cons rfl (sub_nil _)))) rfl (fun hb34 => ?y34) (fun a ha => ⟨ha, rfl⟩)
             case y34 =>
              refine sc_text [3, 3] ?_
              refine sr_pu rfl (fun _ => rd_seq (ev_t rfl) ev_c) ?_
              refine sr_pu rfl (fun _ => rd_assign (ev_t rfl)) ?_
              refine sr_sub [(50, _, _), (1, _, _), (2, _, _)] (sub_cons rfl (sub_cons rfl (sub_cons rfl (sub_nil _)))) ?_
              exact sr_nil (fun a ha => ⟨ha, rfl⟩)
     case n26 =>
      refine sc_cond (ev_t rfl) (fun h35 => ?_) (fun h35 => ?_)
      · (try simp only [bsimp] at h35)
        refine sc_seq fun K47 hK47 => ?_
        refine sc_text [3] ?_
        refine sr_pu rfl (fun _ => rd_assign ev_c) ?_
        refine sr_sub [(1, _, _), (2, _, _)] (sub_cons rfl (sub_cons rfl (sub_nil _))) ?_
        refine sr_nil (hK47 _ _ ?_)
        refine sc_ret (t_ret1 rfl rfl ?_)
        refine ⟨congrArg Value.bool ?_, g⟩
        unfold textB'; simp only [binOps, typeNameB, typeNames, anyS, h9, h10, h11, h25, h35, cond_true, cond_false] <;> rfl
      (try simp only [bsimp] at h35)
      refine sc_skip (hK35 _ _ ?_)
      refine sc_sub [(1, _, _), (2, _, _)] (sub_cons rfl (sub_cons rfl (sub_nil _))) ?_
      refine sc_seq fun K48 hK48 => ?_
      refine sc_text [3] ?_
      refine sr_pu rfl (fun _ => rd_assign ev_c) ?_
      refine sr_nil (hK48 _ _ ?_)
      refine sc_ret (t_ret1 rfl rfl ?_)
      refine ⟨congrArg Value.bool ?_, g⟩
      unfold textB'; simp only [binOps, typeNameB, typeNames, anyS, h9, h10, h11, h25, h35, cond_true, cond_false] <;> rfl
   (try simp only [bsimp] at h25)
   refine sc_skip (hK2 _ _ ?_)
   refine sc_sub [(1, _, _), (2, _, _)] (sub_cons rfl (sub_cons rfl (sub_nil _))) ?_
   refine sc_seq fun K49 hK49 => ?_
   refine sc_text [3, 0, 3, 3] ?_
   refine sr_pu rfl (fun _ => rd_field fo_api_Node_1 (ev_t rfl)) ?_
   refine sr_rd rfl (rd_load one_string (ev_t rfl) (fun _ => B1.at_ rfl)) ?_
   refine sr_pu rfl (fun _ => rd_seq (ev_t rfl) ev_c) ?_
   refine sr_pu rfl (fun _ => rd_assign (ev_t rfl)) ?_
   refine sr_nil (hK49 _ _ ?_)
   refine sc_ret (t_ret1 rfl rfl ?_)
   refine ⟨congrArg Value.bool ?_, g⟩
   unfold textB'; simp only [binOps, typeNameB, typeNames, anyS, h9, h10, h11, h25, cond_true, cond_false] <;> rfl
end Go.Rk
