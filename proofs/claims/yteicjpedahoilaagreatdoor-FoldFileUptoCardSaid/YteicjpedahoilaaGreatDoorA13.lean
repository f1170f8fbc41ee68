/- Merged texts of one road: SynJ, FldD, FldF, Stp, Skl. Conditions: each text's own. -/
import Derived.Test.YteicjpedahoilaaGreatDoorA09
import Derived.Test.YteicjpedahoilaaGreatDoorA12
import Derived.Test.YteicjpedahoilaaGreatDoorA11
import Derived.Test.YteicjpedahoilaaGreatDoorA04
set_option linter.unusedSimpArgs false
set_option linter.unusedVariables false
namespace Go.Rk
open Go Go.RowKit
def countsB (t : Nd) : Bool := decide (t.kind = 24) || decide (t.kind = 25)
theorem rcounts_ok (t : Nd) (p : Option Addr) (c : Nat) (w : World) : Ret PP fn_r03_counts #[ndV t (.slice p t.kids.length c)] w fun v w' => v = .bool (countsB t) ∧ G w w' := by
  have g := G.refl w
  refine ret_of_sc (m := 11) func_r03_counts rfl rfl [(0, True, _)] (sub_cons rfl (sub_nil _)) ?_
  refine sc_seq fun K1 hK1 => ?_
  refine sc_text [1, 3] ?_
  refine sr_box rfl (ev_t rfl) rfl ?_
  intro b1 w1 N1
  have l1 := N1.ge g
  have g := g.trans (N1.g)
  have B1 := N1.blk
  refine sr_pu rfl (fun _ => rd_assign ev_c) ?_
  refine sr_sub [(1, _, _), (2, _, _)] (sub_cons rfl (sub_cons rfl (sub_nil _))) ?_
  refine sr_nil (hK1 _ _ ?_)
  refine sc_seq fun K2 hK2 => ?_
  refine sc_text [3, 0, 3, 3, 3, 0, 3, 3, 3] ?_
  refine sr_pu rfl (fun _ => rd_field fo_api_Node_0 (ev_t rfl)) ?_
  refine sr_rd rfl (rd_load one_int (ev_t rfl) (fun _ => B1.at_ rfl)) ?_
  refine sr_pu rfl (fun _ => rd_eq (ev_t rfl) ev_c) ?_
  refine sr_pu rfl (fun _ => rd_move (ev_t rfl)) ?_
  refine sr_pug rfl rfl rfl (fun _ => rd_field fo_api_Node_0 (ev_t rfl)) ?_
  refine sr_rdg rfl rfl rfl (rd_load one_int (ev_u rfl id) (fun _ => B1.at_ rfl)) ?_
  refine sr_pug rfl rfl rfl (fun _ => rd_eq (ev_u rfl id) ev_c) ?_
  refine sr_pu rfl (fun _ => rd_pick_or (ev_t rfl) (ev_u rfl id)) ?_
  refine sr_pu rfl (fun _ => rd_assign (ev_t rfl)) ?_
  refine sr_sub [(2, _, _)] (sub_cons rfl (sub_nil _)) ?_
  refine sr_nil (hK2 _ _ ?_)
  refine sc_ret (t_ret1 rfl rfl ?_)
  exact ⟨rfl, g⟩
def lenQ (a b : Nd) : Bool := decide ((a.kids.length : Int) = b.kids.length)
def eqLoc (a b : Nd) : Bool := ((decide (a.kind = b.kind) && decide (a.text = b.text)) && lenQ a b) && (!countsB a || decide (a.num = b.num))
theorem eqLoc_not (a b : Nd) : (!eqLoc a b) = (((!decide (a.kind = b.kind) || !decide (a.text = b.text)) || !lenQ a b) || (countsB a && !decide (a.num = b.num))) := by
  unfold eqLoc
  cases decide (a.kind = b.kind) <;> cases decide (a.text = b.text) <;> cases lenQ a b <;> cases countsB a <;> cases decide (a.num = b.num) <;> rfl
/-- A comparison, node by node. -/
def cmpT (q : Nd → Nd → Bool) (a : Nd) : Nd → Bool := para (fun a l b => q a b && (List.range a.kids.length).all fun i => (l.getD i fun _ => false) (kidAt b i)) a
theorem all_range {n : Nat} {f h : Nat → Bool} (e : ∀ i, i < n → f i = h i) : (List.range n).all f = (List.range n).all h := by
  rw [Bool.eq_iff_iff, List.all_eq_true, List.all_eq_true]
  exact ⟨fun k i hi => (e i (List.mem_range.1 hi)) ▸ k i hi, fun k i hi => (e i (List.mem_range.1 hi)).symm ▸ k i hi⟩
theorem cmpT_eq (q : Nd → Nd → Bool) (a b : Nd) : cmpT q a b = (q a b && (List.range a.kids.length).all fun i => cmpT q (kidAt a i) (kidAt b i)) := by
  rw [cmpT, para_eq]
  refine congrArg (q a b && ·) (all_range fun i hi => ?_)
  have : (a.kids.map (cmpT q)).getD i (fun _ => false) = cmpT q (kidAt a i) := by
    rw [kidAt_eq hi]; simp [List.getD_eq_getElem?_getD, List.getElem?_eq_getElem hi]
  exact congrFun this (kidAt b i)
def eqB (a b : Nd) : Bool := cmpT eqLoc a b
theorem eqB_eq (a b : Nd) : eqB a b = (eqLoc a b && (List.range a.kids.length).all fun i => eqB (kidAt a i) (kidAt b i)) := cmpT_eq eqLoc a b
theorem lenQ_iff {a b : Nd} : lenQ a b = true ↔ a.kids.length = b.kids.length := by rw [lenQ, decide_eq_true_eq]; omega
theorem eqLoc_len {a b : Nd} (h : eqLoc a b = true) : a.kids.length = b.kids.length := by
  unfold eqLoc at h; rw [Bool.and_eq_true, Bool.and_eq_true] at h; exact lenQ_iff.1 h.1.2
theorem requal_ok : ∀ (a : Nd) (va : Value) (D : Nat → Prop) (b : Nd) (vb : Value) (D' : Nat → Prop) (w : World), Kd w D a.kids va → Kd w D' b.kids vb → count a ≤ 1000000 → Ret PP fn_r03_Equal #[ndV a va, ndV b vb] w fun r w' => r = .bool (eqB a b) ∧ G w w' := by
  refine Nd.ind fun a ih va D b vb D' w hka hkb hcn => ?_
  obtain ⟨pa, ca, rfl, hcapa, hksa⟩ := hka
  have hka0 : Kd w D a.kids (.slice pa a.kids.length ca) := ⟨pa, ca, rfl, hcapa, hksa⟩
  obtain ⟨pb', cb, rfl, hcapb, hksb⟩ := hkb
  have hkb0 : Kd w D' b.kids (.slice pb' b.kids.length cb) := ⟨pb', cb, rfl, hcapb, hksb⟩
  have g := G.refl w
  have hln := kids_le a
  rw [eqB_eq]
  refine ret_of_sc (m := 57) func_r03_Equal rfl rfl [(0, True, _), (1, True, _)] (sub_cons rfl (sub_cons rfl (sub_nil _))) ?_
  refine sc_seq fun K1 hK1 => ?_
  refine sc_text [1, 1, 3] ?_
  refine sr_box rfl (ev_t rfl) rfl ?_
  intro b2 w2 N2
  have l2 := N2.ge g
  have g := g.trans (N2.g)
  have B2 := N2.blk
  refine sr_box rfl (ev_t rfl) rfl ?_
  intro b3 w3 N3
  have x3_2 := N3.ne B2
  have l3 := N3.ge g
  have g := g.trans (N3.g)
  replace B2 := B2.grow (N3.g)
  have B3 := N3.blk
  refine sr_pu rfl (fun _ => rd_assign ev_c) ?_
  refine sr_sub [(2, _, _), (3, _, _), (4, _, _)] (sub_cons rfl (sub_cons rfl (sub_cons rfl (sub_nil _)))) ?_
  refine sr_nil (hK1 _ _ ?_)
  refine sc_seq fun K2 hK2 => ?_
  refine sc_seq fun K3 hK3 => ?_
  refine sc_text [3, 0, 3, 0, 3, 3, 3, 0, 3, 0, 3, 3, 3, 3, 0, 3, 3, 0, 3, 3, 3, 3, 0, 1, 3, 3, 0, 3, 0, 3, 3, 3] ?_
  refine sr_pu rfl (fun _ => rd_field fo_api_Node_0 (ev_t rfl)) ?_
  refine sr_rd rfl (rd_load one_int (ev_t rfl) (fun _ => B2.at_ rfl)) ?_
  refine sr_pu rfl (fun _ => rd_field fo_api_Node_0 (ev_t rfl)) ?_
  refine sr_rd rfl (rd_load one_int (ev_t rfl) (fun _ => B3.at_ rfl)) ?_
  refine sr_pu rfl (fun _ => rd_ne (ev_t rfl) (ev_t rfl)) ?_
  refine sr_pu rfl (fun _ => rd_move (ev_t rfl)) ?_
  refine sr_pug rfl rfl rfl (fun _ => rd_field fo_api_Node_1 (ev_t rfl)) ?_
  refine sr_rdg rfl rfl rfl (rd_load one_string (ev_u rfl id) (fun _ => B2.at_ rfl)) ?_
  refine sr_pug rfl rfl rfl (fun _ => rd_field fo_api_Node_1 (ev_t rfl)) ?_
  refine sr_rdg rfl rfl rfl (rd_load one_string (ev_u rfl id) (fun _ => B3.at_ rfl)) ?_
  refine sr_pug rfl rfl rfl (fun _ => rd_sne (ev_u rfl id) (ev_u rfl id)) ?_
  refine sr_pu rfl (fun _ => rd_pick_or (ev_t rfl) (ev_u rfl id)) ?_
  refine sr_pu rfl (fun _ => rd_move (ev_t rfl)) ?_
  refine sr_pug rfl rfl rfl (fun _ => rd_field fo_api_Node_4 (ev_t rfl)) ?_
  refine sr_rdg rfl rfl rfl (rd_load one_sl_api_Node (ev_u rfl id) (fun _ => B2.at_ rfl)) ?_
  refine sr_pug rfl rfl rfl (fun _ => rd_len el_sl_api_Node (ev_u rfl id)) ?_
  refine sr_pug rfl rfl rfl (fun _ => rd_field fo_api_Node_4 (ev_t rfl)) ?_
  refine sr_rdg rfl rfl rfl (rd_load one_sl_api_Node (ev_u rfl id) (fun _ => B3.at_ rfl)) ?_
  refine sr_pug rfl rfl rfl (fun _ => rd_len el_sl_api_Node (ev_u rfl id)) ?_
  refine sr_pug rfl rfl rfl (fun _ => rd_ne (ev_u rfl id) (ev_u rfl id)) ?_
  refine sr_pu rfl (fun _ => rd_pick_or (ev_t rfl) (ev_u rfl id)) ?_
  refine sr_pu rfl (fun _ => rd_move (ev_t rfl)) ?_
  refine sr_rdg rfl rfl rfl (rd_loads agg_api_Node (ev_t rfl) rfl (fun _ => B2.row)) ?_
  refine sr_pureg rfl rfl rfl (fun _ => (rc_call go_r03_counts ev_f (args_cons (ev_u rfl id) (args_nil)) rfl)) (fun hc => rcounts_ok _ _ _ _) (fun w29 g29 => ?_)
  have g := g.trans (g29)
  replace B2 := B2.grow (g29)
  replace B3 := B3.grow (g29)
  refine sr_pug rfl rfl rfl (fun _ => rd_move (ev_u rfl id)) ?_
  refine sr_pug rfl rfl rfl (fun _ => rd_field fo_api_Node_2 (ev_t rfl)) ?_
  refine sr_rdg rfl rfl rfl (rd_load one_int (ev_u rfl id) (fun _ => B2.at_ rfl)) ?_
  refine sr_pug rfl rfl rfl (fun _ => rd_field fo_api_Node_2 (ev_t rfl)) ?_
  refine sr_rdg rfl rfl rfl (rd_load one_int (ev_u rfl id) (fun _ => B3.at_ rfl)) ?_
  refine sr_pug rfl rfl rfl (fun _ => rd_ne (ev_u rfl id) (ev_u rfl id)) ?_
  refine sr_pug rfl rfl rfl (fun _ => rd_pick_and (ev_u rfl id) (ev_u rfl id)) ?_
  refine sr_pu rfl (fun _ => rd_pick_or (ev_t rfl) (ev_u rfl id)) ?_
  refine sr_sub [(2, _, _), (3, _, _), (4, _, _), (37, _, _)] (sub_cons rfl (sub_cons rfl (sub_cons rfl (sub_cons rfl (sub_nil _))))) ?_
  refine sr_nil (hK3 _ _ ?_)
  refine sc_cond (ev_t rfl) (fun h1 => ?_) (fun h1 => ?_)
  · replace h1 : eqLoc a b = false := by simpa using (eqLoc_not a b).trans h1
    refine sc_seq fun K4 hK4 => ?_
    refine sc_text [3] ?_
    refine sr_pu rfl (fun _ => rd_assign ev_c) ?_
    refine sr_sub [(2, _, _), (3, _, _), (4, _, _)] (sub_cons rfl (sub_cons rfl (sub_cons rfl (sub_nil _)))) ?_
    refine sr_nil (hK4 _ _ ?_)
    refine sc_ret (t_ret1 rfl rfl ?_)
    rw [h1]; exact ⟨rfl, g⟩
  replace h1 : eqLoc a b = true := by simpa using (eqLoc_not a b).trans h1
  have hl := eqLoc_len h1
  refine sc_skip (hK2 _ _ ?_)
  refine sc_sub [(2, _, _), (3, _, _), (4, _, _)] (sub_cons rfl (sub_cons rfl (sub_cons rfl (sub_nil _)))) ?_
  refine sc_seq fun K5 hK5 => ?_
  refine sc_seq fun K6 hK6 => ?_
  refine sc_text [3] ?_
  refine sr_pu rfl (fun _ => rd_assign ev_c) ?_
  refine sr_nil (hK6 _ _ ?_)
  refine sc_block ?_
  refine sc_loop2 (fun (i : Nat) u1 => (i ≤ a.kids.length ∧ ∀ j, j < i → eqB (kidAt a j) (kidAt b j) = true) ∧ G w29 u1) [(2, True, _), (3, True, _)] (fun (i : Nat) => [(5, True, .int .i64 i)]) (fun (i : Nat) => a.kids.length - i) (0) ⟨⟨Nat.zero_le _, fun j hj => absurd hj (Nat.not_lt_zero j)⟩, G.refl _⟩ (sub_cons rfl (sub_cons rfl (sub_cons rfl (sub_nil _)))) ?_
  rintro i u1 ⟨hI1, gl1⟩
  have g := g.trans gl1
  replace B2 := B2.grow (gl1)
  replace B3 := B3.grow (gl1)
  refine sc_seq fun K7 hK7 => ?_
  refine sc_seq fun K8 hK8 => ?_
  refine sc_text [3, 3, 0, 3, 3] ?_
  refine sr_pu rfl (fun _ => rd_move (ev_t rfl)) ?_
  refine sr_pu rfl (fun _ => rd_field fo_api_Node_4 (ev_t rfl)) ?_
  refine sr_rd rfl (rd_load one_sl_api_Node (ev_t rfl) (fun _ => B2.at_ rfl)) ?_
  refine sr_pu rfl (fun _ => rd_len el_sl_api_Node (ev_t rfl)) ?_
  refine sr_pu rfl (fun _ => rd_lt (ev_t rfl) (ev_t rfl)) ?_
  refine sr_sub [(2, _, _), (3, _, _), (5, _, _), (42, _, _)] (sub_cons rfl (sub_cons rfl (sub_cons rfl (sub_cons rfl (sub_nil _))))) ?_
  refine sr_nil (hK8 _ _ ?_)
  refine sc_cond (ev_t rfl) (fun h2 => ?_) (fun h2 => ?_)
  · replace h2 : i < a.kids.length := by simp only [decide_eq_true_eq] at h2; omega
    obtain ⟨hpa, p1, c1, hcell1, hkid1⟩ := kd_opt hka0 h2
    obtain ⟨hpb, p2, c2, hcell2, hkid2⟩ := kd_opt hkb0 (i := i) (by omega)
    have hck := count_kidAt h2
    refine sc_skip (hK7 _ _ ?_)
    refine sc_sub [(2, _, _), (3, _, _), (5, _, _)] (sub_cons rfl (sub_cons rfl (sub_cons rfl (sub_nil _)))) ?_
    refine sc_seq fun K9 hK9 => ?_
    refine sc_block ?_
    refine sc_seq fun K10 hK10 => ?_
    refine sc_draw [3, 0, 3, 3, 0, 3, 0, 3, 3, 0, 1, 3] [true, true, true, true, true, true, true, true, true, true, true, true] [0, 1, 0, 7, 15, 0, 32, 0, 224, 480, 1023, 2047] mix (by kernel_rfl) ?_
    have g := g.trans (G.drew _)
    try have gl1 := gl1.trans (G.drew _)
    replace B2 := B2.grow (G.drew _)
    replace B3 := B3.grow (G.drew _)
    refine sr_pu rfl (fun _ => rd_field fo_api_Node_4 (ev_t rfl)) ?_
    refine sr_rd rfl (rd_load one_sl_api_Node (ev_t rfl) (fun _ => B2.at_ rfl)) ?_
    refine sr_pu rfl (fun _ => rd_move (ev_t rfl)) ?_
    refine sr_pu rfl (fun _ => rd_idxq el_sl_api_Node (ev_t rfl) (ev_t rfl) (fun _ => by omega) (fun _ => hpa)) ?_
    refine sr_rd rfl (rd_loads agg_api_Node (ev_t rfl) rfl (fun _ => hcell1.grow g)) ?_
    refine sr_pu rfl (fun _ => rd_field fo_api_Node_4 (ev_t rfl)) ?_
    refine sr_rd rfl (rd_load one_sl_api_Node (ev_t rfl) (fun _ => B3.at_ rfl)) ?_
    refine sr_pu rfl (fun _ => rd_move (ev_t rfl)) ?_
    refine sr_pu rfl (fun _ => rd_idxq el_sl_api_Node (ev_t rfl) (ev_t rfl) (fun _ => by omega) (fun _ => hpb)) ?_
    refine sr_rd rfl (rd_loads agg_api_Node (ev_t rfl) rfl (fun _ => hcell2.grow g)) ?_
    refine sr_pure rfl (rc_call go_r03_Equal ev_f (args_cons (ev_t rfl) (args_cons (ev_t rfl) (args_nil))) rfl) (ih _ (kidAt_eq h2 ▸ List.getElem_mem h2) _ D _ _ D' _ (hkid1.grow g) (hkid2.grow g) (by omega)) (fun w55 g55 => ?_)
    have g := g.trans (g55)
    try have gl1 := gl1.trans (g55)
    replace B2 := B2.grow (g55)
    replace B3 := B3.grow (g55)
    refine sr_pu rfl (fun _ => rd_not (ev_t rfl)) ?_
    refine sr_sub [(2, _, _), (3, _, _), (5, _, _), (56, _, _)] (sub_cons rfl (sub_cons rfl (sub_cons rfl (sub_cons rfl (sub_nil _))))) ?_
    refine sr_nil (hK10 _ _ ?_)
    refine sc_cond (ev_t rfl) (fun h3 => ?_) (fun h3 => ?_)
    · (try simp only [bsimp] at h3)
      refine sc_seq fun K11 hK11 => ?_
      refine sc_text [3] ?_
      refine sr_pu rfl (fun _ => rd_assign ev_c) ?_
      refine sr_sub [(2, _, _), (3, _, _), (4, _, _), (5, _, _)] (sub_cons rfl (sub_cons rfl (sub_cons rfl (sub_cons rfl (sub_nil _))))) ?_
      refine sr_nil (hK11 _ _ ?_)
      refine sc_ret (t_ret1 rfl rfl ?_)
      refine ⟨congrArg Value.bool ?_, g⟩
      rw [h1, Bool.true_and, eq_comm, List.all_eq_false]
      exact ⟨i, List.mem_range.2 h2, by simpa using h3⟩
    (try simp only [bsimp] at h3)
    refine sc_skip (hK9 _ _ ?_)
    refine sc_sub [(2, _, _), (3, _, _), (5, _, _)] (sub_cons rfl (sub_cons rfl (sub_cons rfl (sub_nil _)))) ?_
    refine sc_text [3, 3, 3] ?_
    refine sr_pu rfl (fun _ => rd_move (ev_t rfl)) ?_
    refine sr_pu rfl (fun _ => rd_add (ev_t rfl) ev_c (fun _ => by omega)) ?_
    refine sr_pu rfl (fun _ => rd_assign (ev_t rfl)) ?_
    refine sr_sub [(5, _, _), (2, _, _), (3, _, _)] (sub_cons rfl (sub_cons rfl (sub_cons rfl (sub_nil _)))) ?_
    refine sr_nil (fun a ha => ?_)
    refine ⟨i + 1, ha, ⟨⟨h2, fun j hj => ?_⟩, gl1⟩, by omega⟩
    by_cases e : j = i
    · subst e; simpa using h3
    · exact hI1.2 j (by omega)
  (try simp only [bsimp] at h2)
  refine sc_exit rfl (hK5 _ _ ?_)
  refine sc_sub [] (sub_nil _) ?_
  refine sc_seq fun K12 hK12 => ?_
  refine sc_text [3] ?_
  refine sr_pu rfl (fun _ => rd_assign ev_c) ?_
  refine sr_nil (hK12 _ _ ?_)
  refine sc_ret (t_ret1 rfl rfl ?_)
  refine ⟨congrArg Value.bool ?_, g⟩
  rw [h1, Bool.true_and, eq_comm, List.all_eq_true]
  intro j hj
  exact hI1.2 j (by have := List.mem_range.1 hj; simp only [decide_eq_false_iff_not] at h2; omega)
def tyQB (a b : Ty) : Bool := decide (a.kind = b.kind) && (decide (a.name = b.name) && true)
theorem tyQB_iff (a b : Ty) : tyQB a b = true ↔ a = b := by
  cases a; cases b
  simp [tyQB]
def smLoc (a b : Nd) : Bool := ((((((decide (a.kind = b.kind) && decide (a.text = b.text)) && decide (a.num = b.num)) && decide (a.pos = b.pos)) && tyQB a.ty b.ty) && decide (a.ref = b.ref)) && decide (a.up = b.up)) && lenQ a b
theorem smLoc_not (a b : Nd) : (!smLoc a b) = (((((((!decide (a.kind = b.kind) || !decide (a.text = b.text)) || !decide (a.num = b.num)) || !decide (a.pos = b.pos)) || !tyQB a.ty b.ty) || !decide (a.ref = b.ref)) || !decide (a.up = b.up)) || !lenQ a b) := by
  unfold smLoc; simp only [Bool.not_and]
def smB (a b : Nd) : Bool := cmpT smLoc a b
theorem smB_eq (a b : Nd) : smB a b = (smLoc a b && (List.range a.kids.length).all fun i => smB (kidAt a i) (kidAt b i)) := cmpT_eq smLoc a b
theorem smLoc_len {a b : Nd} (h : smLoc a b = true) : a.kids.length = b.kids.length := by
  unfold smLoc at h; rw [Bool.and_eq_true] at h; exact lenQ_iff.1 h.2
theorem smB_refl : ∀ a, smB a a = true := by
  refine Nd.ind fun a ih => ?_
  rw [smB_eq, Bool.and_eq_true, List.all_eq_true]
  refine ⟨by simp [smLoc, lenQ, (tyQB_iff a.ty a.ty).2 rfl], fun i hi => ?_⟩
  rw [kidAt_eq (List.mem_range.1 hi)]; exact ih _ (List.getElem_mem _)
theorem rsame_ok : ∀ (a : Nd) (va : Value) (D : Nat → Prop) (b : Nd) (vb : Value) (D' : Nat → Prop) (w : World), Kd w D a.kids va → Kd w D' b.kids vb → count a ≤ 1000000 → Ret PP fn_r03_Same #[ndV a va, ndV b vb] w fun r w' => r = .bool (smB a b) ∧ G w w' := by
  refine Nd.ind fun a ih va D b vb D' w hka hkb hcn => ?_
  obtain ⟨pa, ca, rfl, hcapa, hksa⟩ := hka
  have hka0 : Kd w D a.kids (.slice pa a.kids.length ca) := ⟨pa, ca, rfl, hcapa, hksa⟩
  obtain ⟨pb', cb, rfl, hcapb, hksb⟩ := hkb
  have hkb0 : Kd w D' b.kids (.slice pb' b.kids.length cb) := ⟨pb', cb, rfl, hcapb, hksb⟩
  have g := G.refl w
  have hln := kids_le a
  rw [smB_eq]
  refine ret_of_sc (m := 81) func_r03_Same rfl rfl [(0, True, _), (1, True, _)] (sub_cons rfl (sub_cons rfl (sub_nil _))) ?_
  refine sc_seq fun K1 hK1 => ?_
  refine sc_text [1, 1, 3] ?_
  refine sr_box rfl (ev_t rfl) rfl ?_
  intro b2 w2 N2
  have l2 := N2.ge g
  have g := g.trans (N2.g)
  have B2 := N2.blk
  refine sr_box rfl (ev_t rfl) rfl ?_
  intro b3 w3 N3
  have x3_2 := N3.ne B2
  have l3 := N3.ge g
  have g := g.trans (N3.g)
  replace B2 := B2.grow (N3.g)
  have B3 := N3.blk
  refine sr_pu rfl (fun _ => rd_assign ev_c) ?_
  refine sr_sub [(2, _, _), (3, _, _), (4, _, _)] (sub_cons rfl (sub_cons rfl (sub_cons rfl (sub_nil _)))) ?_
  refine sr_nil (hK1 _ _ ?_)
  refine sc_seq fun K2 hK2 => ?_
  refine sc_seq fun K3 hK3 => ?_
  refine sc_text [3, 0, 3, 0, 3, 3, 3, 0, 3, 0, 3, 3, 3, 3, 0, 3, 0, 3, 3, 3, 3, 0, 3, 0, 3, 3, 3, 3, 0, 3, 0, 3, 3, 3, 3, 0, 3, 0, 3, 3, 3, 3, 0, 3, 0, 3, 3, 3, 3, 0, 3, 3, 0, 3, 3, 3] ?_
  refine sr_pu rfl (fun _ => rd_field fo_api_Node_0 (ev_t rfl)) ?_
  refine sr_rd rfl (rd_load one_int (ev_t rfl) (fun _ => B2.at_ rfl)) ?_
  refine sr_pu rfl (fun _ => rd_field fo_api_Node_0 (ev_t rfl)) ?_
  refine sr_rd rfl (rd_load one_int (ev_t rfl) (fun _ => B3.at_ rfl)) ?_
  refine sr_pu rfl (fun _ => rd_ne (ev_t rfl) (ev_t rfl)) ?_
  refine sr_pu rfl (fun _ => rd_move (ev_t rfl)) ?_
  refine sr_pug rfl rfl rfl (fun _ => rd_field fo_api_Node_1 (ev_t rfl)) ?_
  refine sr_rdg rfl rfl rfl (rd_load one_string (ev_u rfl id) (fun _ => B2.at_ rfl)) ?_
  refine sr_pug rfl rfl rfl (fun _ => rd_field fo_api_Node_1 (ev_t rfl)) ?_
  refine sr_rdg rfl rfl rfl (rd_load one_string (ev_u rfl id) (fun _ => B3.at_ rfl)) ?_
  refine sr_pug rfl rfl rfl (fun _ => rd_sne (ev_u rfl id) (ev_u rfl id)) ?_
  refine sr_pu rfl (fun _ => rd_pick_or (ev_t rfl) (ev_u rfl id)) ?_
  refine sr_pu rfl (fun _ => rd_move (ev_t rfl)) ?_
  refine sr_pug rfl rfl rfl (fun _ => rd_field fo_api_Node_2 (ev_t rfl)) ?_
  refine sr_rdg rfl rfl rfl (rd_load one_int (ev_u rfl id) (fun _ => B2.at_ rfl)) ?_
  refine sr_pug rfl rfl rfl (fun _ => rd_field fo_api_Node_2 (ev_t rfl)) ?_
  refine sr_rdg rfl rfl rfl (rd_load one_int (ev_u rfl id) (fun _ => B3.at_ rfl)) ?_
  refine sr_pug rfl rfl rfl (fun _ => rd_ne (ev_u rfl id) (ev_u rfl id)) ?_
  refine sr_pu rfl (fun _ => rd_pick_or (ev_t rfl) (ev_u rfl id)) ?_
  refine sr_pu rfl (fun _ => rd_move (ev_t rfl)) ?_
  refine sr_pug rfl rfl rfl (fun _ => rd_field fo_api_Node_3 (ev_t rfl)) ?_
  refine sr_rdg rfl rfl rfl (rd_load one_int (ev_u rfl id) (fun _ => B2.at_ rfl)) ?_
  refine sr_pug rfl rfl rfl (fun _ => rd_field fo_api_Node_3 (ev_t rfl)) ?_
  refine sr_rdg rfl rfl rfl (rd_load one_int (ev_u rfl id) (fun _ => B3.at_ rfl)) ?_
  refine sr_pug rfl rfl rfl (fun _ => rd_ne (ev_u rfl id) (ev_u rfl id)) ?_
  refine sr_pu rfl (fun _ => rd_pick_or (ev_t rfl) (ev_u rfl id)) ?_
  refine sr_pu rfl (fun _ => rd_move (ev_t rfl)) ?_
  refine sr_pug rfl rfl rfl (fun _ => rd_field fo_api_Node_5 (ev_t rfl)) ?_
  refine sr_rdg rfl rfl rfl (rd_loads agg_api_Type (ev_u rfl id) rfl (fun _ => B2.row.part 5 2)) ?_
  refine sr_pug rfl rfl rfl (fun _ => rd_field fo_api_Node_5 (ev_t rfl)) ?_
  refine sr_rdg rfl rfl rfl (rd_loads agg_api_Type (ev_u rfl id) rfl (fun _ => B3.row.part 5 2)) ?_
  refine sr_pug rfl rfl rfl (fun _ => rd_stne fl_api_Type (ev_u rfl id) (ev_u rfl id) rfl) ?_
  refine sr_pu rfl (fun _ => rd_pick_or (ev_t rfl) (ev_u rfl id)) ?_
  refine sr_pu rfl (fun _ => rd_move (ev_t rfl)) ?_
  refine sr_pug rfl rfl rfl (fun _ => rd_field fo_api_Node_6 (ev_t rfl)) ?_
  refine sr_rdg rfl rfl rfl (rd_load one_int (ev_u rfl id) (fun _ => B2.at_ rfl)) ?_
  refine sr_pug rfl rfl rfl (fun _ => rd_field fo_api_Node_6 (ev_t rfl)) ?_
  refine sr_rdg rfl rfl rfl (rd_load one_int (ev_u rfl id) (fun _ => B3.at_ rfl)) ?_
  refine sr_pug rfl rfl rfl (fun _ => rd_ne (ev_u rfl id) (ev_u rfl id)) ?_
  refine sr_pu rfl (fun _ => rd_pick_or (ev_t rfl) (ev_u rfl id)) ?_
  refine sr_pu rfl (fun _ => rd_move (ev_t rfl)) ?_
  refine sr_pug rfl rfl rfl (fun _ => rd_field fo_api_Node_7 (ev_t rfl)) ?_
  refine sr_rdg rfl rfl rfl (rd_load one_int (ev_u rfl id) (fun _ => B2.at_ rfl)) ?_
  refine sr_pug rfl rfl rfl (fun _ => rd_field fo_api_Node_7 (ev_t rfl)) ?_
  refine sr_rdg rfl rfl rfl (rd_load one_int (ev_u rfl id) (fun _ => B3.at_ rfl)) ?_
  refine sr_pug rfl rfl rfl (fun _ => rd_ne (ev_u rfl id) (ev_u rfl id)) ?_
  refine sr_pu rfl (fun _ => rd_pick_or (ev_t rfl) (ev_u rfl id)) ?_
  refine sr_pu rfl (fun _ => rd_move (ev_t rfl)) ?_
  refine sr_pug rfl rfl rfl (fun _ => rd_field fo_api_Node_4 (ev_t rfl)) ?_
  refine sr_rdg rfl rfl rfl (rd_load one_sl_api_Node (ev_u rfl id) (fun _ => B2.at_ rfl)) ?_
  refine sr_pug rfl rfl rfl (fun _ => rd_len el_sl_api_Node (ev_u rfl id)) ?_
  refine sr_pug rfl rfl rfl (fun _ => rd_field fo_api_Node_4 (ev_t rfl)) ?_
  refine sr_rdg rfl rfl rfl (rd_load one_sl_api_Node (ev_u rfl id) (fun _ => B3.at_ rfl)) ?_
  refine sr_pug rfl rfl rfl (fun _ => rd_len el_sl_api_Node (ev_u rfl id)) ?_
  refine sr_pug rfl rfl rfl (fun _ => rd_ne (ev_u rfl id) (ev_u rfl id)) ?_
  refine sr_pu rfl (fun _ => rd_pick_or (ev_t rfl) (ev_u rfl id)) ?_
  refine sr_sub [(2, _, _), (3, _, _), (4, _, _), (61, _, _)] (sub_cons rfl (sub_cons rfl (sub_cons rfl (sub_cons rfl (sub_nil _))))) ?_
  refine sr_nil (hK3 _ _ ?_)
  refine sc_cond (ev_t rfl) (fun h1 => ?_) (fun h1 => ?_)
  · replace h1 : smLoc a b = false := by simpa using (smLoc_not a b).trans h1
    refine sc_seq fun K4 hK4 => ?_
    refine sc_text [3] ?_
    refine sr_pu rfl (fun _ => rd_assign ev_c) ?_
    refine sr_sub [(2, _, _), (3, _, _), (4, _, _)] (sub_cons rfl (sub_cons rfl (sub_cons rfl (sub_nil _)))) ?_
    refine sr_nil (hK4 _ _ ?_)
    refine sc_ret (t_ret1 rfl rfl ?_)
    rw [h1]; exact ⟨rfl, g⟩
  replace h1 : smLoc a b = true := by simpa using (smLoc_not a b).trans h1
  have hl := smLoc_len h1
  refine sc_skip (hK2 _ _ ?_)
  refine sc_sub [(2, _, _), (3, _, _), (4, _, _)] (sub_cons rfl (sub_cons rfl (sub_cons rfl (sub_nil _)))) ?_
  refine sc_seq fun K5 hK5 => ?_
  refine sc_seq fun K6 hK6 => ?_
  refine sc_text [3] ?_
  refine sr_pu rfl (fun _ => rd_assign ev_c) ?_
  refine sr_nil (hK6 _ _ ?_)
  refine sc_block ?_
  refine sc_loop2 (fun (i : Nat) u1 => (i ≤ a.kids.length ∧ ∀ j, j < i → smB (kidAt a j) (kidAt b j) = true) ∧ G w3 u1) [(2, True, _), (3, True, _)] (fun (i : Nat) => [(5, True, .int .i64 i)]) (fun (i : Nat) => a.kids.length - i) (0) ⟨⟨Nat.zero_le _, fun j hj => absurd hj (Nat.not_lt_zero j)⟩, G.refl _⟩ (sub_cons rfl (sub_cons rfl (sub_cons rfl (sub_nil _)))) ?_
  rintro i u1 ⟨hI1, gl1⟩
  have g := g.trans gl1
  replace B2 := B2.grow (gl1)
  replace B3 := B3.grow (gl1)
  refine sc_seq fun K7 hK7 => ?_
  refine sc_seq fun K8 hK8 => ?_
  refine sc_text [3, 3, 0, 3, 3] ?_
  refine sr_pu rfl (fun _ => rd_move (ev_t rfl)) ?_
  refine sr_pu rfl (fun _ => rd_field fo_api_Node_4 (ev_t rfl)) ?_
  refine sr_rd rfl (rd_load one_sl_api_Node (ev_t rfl) (fun _ => B2.at_ rfl)) ?_
  refine sr_pu rfl (fun _ => rd_len el_sl_api_Node (ev_t rfl)) ?_
  refine sr_pu rfl (fun _ => rd_lt (ev_t rfl) (ev_t rfl)) ?_
  refine sr_sub [(2, _, _), (3, _, _), (5, _, _), (66, _, _)] (sub_cons rfl (sub_cons rfl (sub_cons rfl (sub_cons rfl (sub_nil _))))) ?_
  refine sr_nil (hK8 _ _ ?_)
  refine sc_cond (ev_t rfl) (fun h2 => ?_) (fun h2 => ?_)
  · replace h2 : i < a.kids.length := by simp only [decide_eq_true_eq] at h2; omega
    obtain ⟨hpa, p1, c1, hcell1, hkid1⟩ := kd_opt hka0 h2
    obtain ⟨hpb, p2, c2, hcell2, hkid2⟩ := kd_opt hkb0 (i := i) (by omega)
    have hck := count_kidAt h2
    refine sc_skip (hK7 _ _ ?_)
    refine sc_sub [(2, _, _), (3, _, _), (5, _, _)] (sub_cons rfl (sub_cons rfl (sub_cons rfl (sub_nil _)))) ?_
    refine sc_seq fun K9 hK9 => ?_
    refine sc_block ?_
    refine sc_seq fun K10 hK10 => ?_
    refine sc_draw [3, 0, 3, 3, 0, 3, 0, 3, 3, 0, 1, 3] [true, true, true, true, true, true, true, true, true, true, true, true] [0, 1, 0, 7, 15, 0, 32, 0, 224, 480, 1023, 2047] mix (by kernel_rfl) ?_
    have g := g.trans (G.drew _)
    try have gl1 := gl1.trans (G.drew _)
    replace B2 := B2.grow (G.drew _)
    replace B3 := B3.grow (G.drew _)
    refine sr_pu rfl (fun _ => rd_field fo_api_Node_4 (ev_t rfl)) ?_
    refine sr_rd rfl (rd_load one_sl_api_Node (ev_t rfl) (fun _ => B2.at_ rfl)) ?_
    refine sr_pu rfl (fun _ => rd_move (ev_t rfl)) ?_
    refine sr_pu rfl (fun _ => rd_idxq el_sl_api_Node (ev_t rfl) (ev_t rfl) (fun _ => by omega) (fun _ => hpa)) ?_
    refine sr_rd rfl (rd_loads agg_api_Node (ev_t rfl) rfl (fun _ => hcell1.grow g)) ?_
    refine sr_pu rfl (fun _ => rd_field fo_api_Node_4 (ev_t rfl)) ?_
    refine sr_rd rfl (rd_load one_sl_api_Node (ev_t rfl) (fun _ => B3.at_ rfl)) ?_
    refine sr_pu rfl (fun _ => rd_move (ev_t rfl)) ?_
    refine sr_pu rfl (fun _ => rd_idxq el_sl_api_Node (ev_t rfl) (ev_t rfl) (fun _ => by omega) (fun _ => hpb)) ?_
    refine sr_rd rfl (rd_loads agg_api_Node (ev_t rfl) rfl (fun _ => hcell2.grow g)) ?_
    refine sr_pure rfl (rc_call go_r03_Same ev_f (args_cons (ev_t rfl) (args_cons (ev_t rfl) (args_nil))) rfl) (ih _ (kidAt_eq h2 ▸ List.getElem_mem h2) _ D _ _ D' _ (hkid1.grow g) (hkid2.grow g) (by omega)) (fun w79 g79 => ?_)
    have g := g.trans (g79)
    try have gl1 := gl1.trans (g79)
    replace B2 := B2.grow (g79)
    replace B3 := B3.grow (g79)
    refine sr_pu rfl (fun _ => rd_not (ev_t rfl)) ?_
    refine sr_sub [(2, _, _), (3, _, _), (5, _, _), (80, _, _)] (sub_cons rfl (sub_cons rfl (sub_cons rfl (sub_cons rfl (sub_nil _))))) ?_
    refine sr_nil (hK10 _ _ ?_)
    refine sc_cond (ev_t rfl) (fun h3 => ?_) (fun h3 => ?_)
    · (try simp only [bsimp] at h3)
      refine sc_seq fun K11 hK11 => ?_
      refine sc_text [3] ?_
      refine sr_pu rfl (fun _ => rd_assign ev_c) ?_
      refine sr_sub [(2, _, _), (3, _, _), (4, _, _), (5, _, _)] (sub_cons rfl (sub_cons rfl (sub_cons rfl (sub_cons rfl (sub_nil _))))) ?_
      refine sr_nil (hK11 _ _ ?_)
      refine sc_ret (t_ret1 rfl rfl ?_)
      refine ⟨congrArg Value.bool ?_, g⟩
      rw [h1, Bool.true_and, eq_comm, List.all_eq_false]
      exact ⟨i, List.mem_range.2 h2, by simpa using h3⟩
    (try simp only [bsimp] at h3)
    refine sc_skip (hK9 _ _ ?_)
    refine sc_sub [(2, _, _), (3, _, _), (5, _, _)] (sub_cons rfl (sub_cons rfl (sub_cons rfl (sub_nil _)))) ?_
    refine sc_text [3, 3, 3] ?_
    refine sr_pu rfl (fun _ => rd_move (ev_t rfl)) ?_
    refine sr_pu rfl (fun _ => rd_add (ev_t rfl) ev_c (fun _ => by omega)) ?_
    refine sr_pu rfl (fun _ => rd_assign (ev_t rfl)) ?_
    refine sr_sub [(5, _, _), (2, _, _), (3, _, _)] (sub_cons rfl (sub_cons rfl (sub_cons rfl (sub_nil _)))) ?_
    refine sr_nil (fun a ha => ?_)
    refine ⟨i + 1, ha, ⟨⟨h2, fun j hj => ?_⟩, gl1⟩, by omega⟩
    by_cases e : j = i
    · subst e; simpa using h3
    · exact hI1.2 j (by omega)
  (try simp only [bsimp] at h2)
  refine sc_exit rfl (hK5 _ _ ?_)
  refine sc_sub [] (sub_nil _) ?_
  refine sc_seq fun K12 hK12 => ?_
  refine sc_text [3] ?_
  refine sr_pu rfl (fun _ => rd_assign ev_c) ?_
  refine sr_nil (hK12 _ _ ?_)
  refine sc_ret (t_ret1 rfl rfl ?_)
  refine ⟨congrArg Value.bool ?_, g⟩
  rw [h1, Bool.true_and, eq_comm, List.all_eq_true]
  intro j hj
  exact hI1.2 j (by have := List.mem_range.1 hj; simp only [decide_eq_false_iff_not] at h2; omega)
end Go.Rk
namespace Go.Rk
open Go Go.RowKit
def fileT (t : Nd) : Nd := bif validB t then foldT t else nd0
theorem validB_perm {t : Nd} (h : validB t = true) : permF t = true := by
  rw [validB, permB, Bool.and_eq_true, Bool.and_eq_true] at h; exact h.2.1
theorem ffile_ok (t : Nd) (v : Value) (D : Nat → Prop) (w : World) (hL : Laid w) (hb3 : 6 ≤ w.heap.size) (hk : Kd w D t.kids v) (hcn : count t ≤ 1000000) : Ret PP fn_fold_File #[ndV t v] w fun r w' => RetD (GE w.heap.size) (fileT t) r w' ∧ G w w' := by
  obtain ⟨p, c, rfl, hcap, hks⟩ := hk
  have hk0 : Kd w D t.kids (.slice p t.kids.length c) := ⟨p, c, rfl, hcap, hks⟩
  have g := G.refl w
  refine ret_of_sc (m := 9) func_fold_File rfl rfl [(0, True, _)] (sub_cons rfl (sub_nil _)) ?_
  refine sc_seq fun K1 hK1 => ?_
  refine sc_text [1, 1] ?_
  refine sr_box rfl (ev_t rfl) rfl ?_
  intro b1 w1 N1
  have l1 := N1.ge g
  have g := g.trans (N1.g)
  have B1 := N1.blk
  refine sr_alloc rfl ze_api_Node rfl ?_
  intro b2 w2 N2
  have x2_1 := N2.ne B1
  have l2 := N2.ge g
  have g := g.trans (N2.g)
  replace B1 := B1.grow (N2.g)
  have B2 := N2.blk
  refine sr_sub [(1, _, _), (2, _, _)] (sub_cons rfl (sub_cons rfl (sub_nil _))) ?_
  refine sr_nil (hK1 _ _ ?_)
  refine sc_seq fun K2 hK2 => ?_
  refine sc_seq fun K3 hK3 => ?_
  refine sc_text [0, 1, 3] ?_
  refine sr_rd rfl (rd_loads agg_api_Node (ev_t rfl) rfl (fun _ => B1.row)) ?_
  refine sr_pure rfl (rc_call go_syntax_Valid ev_f (args_cons (ev_t rfl) (args_nil)) rfl) (svalid_ok t _ D _ (hL.grow g) (by have := g.size; omega) (hk0.grow g) hcn) (fun w4 g4 => ?_)
  have g := g.trans (g4)
  replace B1 := B1.grow (g4)
  replace B2 := B2.grow (g4)
  refine sr_pu rfl (fun _ => rd_not (ev_t rfl)) ?_
  refine sr_sub [(1, _, _), (2, _, _), (5, _, _)] (sub_cons rfl (sub_cons rfl (sub_cons rfl (sub_nil _)))) ?_
  refine sr_nil (hK3 _ _ ?_)
  refine sc_cond (ev_t rfl) (fun h1 => ?_) (fun h1 => ?_)
  · replace h1 : validB t = false := by simpa using h1
    refine sc_seq fun K4 hK4 => ?_
    refine sc_text [3, 2] ?_
    refine sr_pu rfl (fun _ => rd_build [_, _, _, _, _, _, _, _, _] ze_api_Node rfl pl_api_Node (parts_nil) rfl) ?_
    refine sr_store_all rfl sz_api_Node (ev_t rfl) (ev_t rfl) rfl rfl B2 rfl rfl ?_
    intro wS1 hgS1 hzS1
    clear B2
    intro B2
    replace B1 := B1.keep hgS1 (by intro h; injection h with h; first | exact x2_1 h.symm | exact x1_2 h | omega)
    have g := g_only g hgS1 (by intro k hk; injection hk with hk; omega)
    try have hk5 := hk5.keep hgS1 (fun b hb _ he => by injection he with he; omega)
    refine sr_sub [(1, _, _), (2, _, _)] (sub_cons rfl (sub_cons rfl (sub_nil _))) ?_
    refine sr_nil (hK4 _ _ ?_)
    refine sc_ret (t_retv1 rfl (evr_c rfl agg_api_Node rfl (by first | exact B1.row | exact B2.row) (evr_nil)) ?_)
    refine ⟨?_, g⟩
    rw [fileT, h1]; exact retD_leaf _ nd0 _ rfl
  replace h1 : validB t = true := by simpa using h1
  refine sc_skip (hK2 _ _ ?_)
  refine sc_sub [(1, _, _), (2, _, _)] (sub_cons rfl (sub_cons rfl (sub_nil _))) ?_
  refine sc_seq fun K5 hK5 => ?_
  refine sc_text [0, 1, 2] ?_
  refine sr_rd rfl (rd_loads agg_api_Node (ev_t rfl) rfl (fun _ => B1.row)) ?_
  refine sr_call rfl (rc_call go_fold_fold ev_f (args_cons (ev_t rfl) (args_nil)) rfl) (ffold_ok t (validB_perm h1) hcn _ D _ (hk0.grow g)) ?_
  rintro v8 w8 ⟨⟨p5, c5, rfl, hk5⟩, g8⟩
  refine ⟨fun _ => g8, ?_⟩
  have hB2 := B2.lt
  have hlow := g.size
  have g := g.trans g8
  replace B1 := B1.grow (g8)
  replace B2 := B2.grow (g8)
  refine sr_store_all rfl sz_api_Node (ev_t rfl) (ev_t rfl) rfl rfl B2 rfl rfl ?_
  intro wS2 hgS2 hzS2
  clear B2
  intro B2
  replace B1 := B1.keep hgS2 (by intro h; injection h with h; first | exact x2_1 h.symm | exact x1_2 h | omega)
  have g := g_only g hgS2 (by intro k hk; injection hk with hk; omega)
  try have hk5 := hk5.keep hgS2 (fun b hb _ he => by injection he with he; omega)
  refine sr_sub [(2, _, _)] (sub_cons rfl (sub_nil _)) ?_
  refine sr_nil (hK5 _ _ ?_)
  refine sc_ret (t_retv1 rfl (evr_c rfl agg_api_Node rfl (by first | exact B1.row | exact B2.row) (evr_nil)) ?_)
  refine ⟨?_, g⟩
  rw [fileT, h1]; exact retD_of (hk5.mono fun b hb _ => Nat.le_trans hlow hb)
def binN (op : List UInt8) (a b : Nd) : Nd := .mk 32 op 0 0 [a, b] ty0 0 0
theorem lbinary_ok (op : List UInt8) (a b : Nd) (va vb : Value) (D D' : Nat → Prop) (w : World) (hka : Kd w D a.kids va) (hkb : Kd w D' b.kids vb) : Ret PP fn_l07_binary #[Str op, ndV a va, ndV b vb] w fun r w' => RetD (fun k => D k ∨ D' k ∨ w.heap.size ≤ k) (binN op a b) r w' ∧ G w w' := by
  have hka0 : Kd w (fun k => D k ∨ D' k ∨ w.heap.size ≤ k) a.kids va := hka.mono fun _ h _ => .inl h
  have hkb0 : Kd w (fun k => D k ∨ D' k ∨ w.heap.size ≤ k) b.kids vb := hkb.mono fun _ h _ => .inr (.inl h)
  obtain ⟨pa, ca, rfl, _⟩ := hka
  obtain ⟨pb', cb, rfl, _⟩ := hkb
  have g := G.refl w
  refine ret_of_sc (m := 12) func_l07_binary rfl rfl [(0, True, _), (1, True, _), (2, True, _)] (sub_cons rfl (sub_cons rfl (sub_cons rfl (sub_nil _)))) ?_
  refine sc_seq fun K1 hK1 => ?_
  refine sc_text [1, 1, 1] ?_
  refine sr_box rfl (ev_t rfl) rfl ?_
  intro b4 w4 N4
  have l4 := N4.ge g
  have g := g.trans (N4.g)
  have B4 := N4.blk
  refine sr_box rfl (ev_t rfl) rfl ?_
  intro b5 w5 N5
  have x5_4 := N5.ne B4
  have l5 := N5.ge g
  have g := g.trans (N5.g)
  replace B4 := B4.grow (N5.g)
  have B5 := N5.blk
  refine sr_alloc rfl ze_api_Node rfl ?_
  intro b6 w6 N6
  have x6_4 := N6.ne B4
  have x6_5 := N6.ne B5
  have l6 := N6.ge g
  have g := g.trans (N6.g)
  replace B4 := B4.grow (N6.g)
  replace B5 := B5.grow (N6.g)
  have B6 := N6.blk
  refine sr_sub [(0, _, _), (4, _, _), (5, _, _), (6, _, _)] (sub_cons rfl (sub_cons rfl (sub_cons rfl (sub_cons rfl (sub_nil _))))) ?_
  refine sr_nil (hK1 _ _ ?_)
  refine sc_seq fun K2 hK2 => ?_
  refine sc_text [3, 0, 0, 1, 3, 2] ?_
  refine sr_pu rfl (fun _ => rd_move (ev_t rfl)) ?_
  refine sr_rd rfl (rd_loads agg_api_Node (ev_t rfl) rfl (fun _ => B4.row)) ?_
  refine sr_rd rfl (rd_loads agg_api_Node (ev_t rfl) rfl (fun _ => B5.row)) ?_
  refine sr_buildSlice [_, _, _, _, _, _, _, _, _, _, _, _, _, _, _, _, _, _] rfl el_sl_api_Node ze_api_Node (parts_cons (ev_t rfl) (parts_cons (ev_t rfl) (parts_nil))) rfl rfl ?_
  intro b10 w10 N10
  have x10_4 := N10.ne B4
  have x10_5 := N10.ne B5
  have x10_6 := N10.ne B6
  have l10 := N10.ge g
  have g := g.trans (N10.g)
  replace B4 := B4.grow (N10.g)
  replace B5 := B5.grow (N10.g)
  replace B6 := B6.grow (N10.g)
  have B10 := N10.blk
  refine sr_pu rfl (fun _ => rd_build [_, _, _, _, _, _, _, _, _] ze_api_Node rfl pl_api_Node (parts_cons ev_c (parts_cons (ev_t rfl) (parts_cons (ev_t rfl) (parts_nil)))) rfl) ?_
  refine sr_store_all rfl sz_api_Node (ev_t rfl) (ev_t rfl) rfl rfl B6 rfl rfl ?_
  intro wS1 hgS1 hzS1
  clear B6
  intro B6
  replace B4 := B4.keep hgS1 (by intro h; injection h with h; first | exact x6_4 h.symm | exact x4_6 h | omega)
  replace B5 := B5.keep hgS1 (by intro h; injection h with h; first | exact x6_5 h.symm | exact x5_6 h | omega)
  replace B10 := B10.keep hgS1 (by intro h; injection h with h; first | exact x6_10 h.symm | exact x10_6 h | omega)
  have g := g_only g hgS1 (by intro k hk; injection hk with hk; omega)
  refine sr_sub [(6, _, _)] (sub_cons rfl (sub_nil _)) ?_
  refine sr_nil (hK2 _ _ ?_)
  refine sc_ret (t_retv1 rfl (evr_c rfl agg_api_Node rfl (by first | exact B4.row | exact B5.row | exact B6.row | exact B10.row) (evr_nil)) ?_)
  exact ⟨⟨_, _, rfl, kd_row (.inr (.inr l10)) B10.row (krow_cons (hka0.grow g) (krow_one (hkb0.grow g))) (Nat.le_refl _)⟩, g⟩
def nmN (n : Int) : Nd := .mk 24 [] n 0 [] ty0 0 0
def numT (v : Int) : Nd := bif decide (0 ≤ v) then nmN v else bif decide (v = -9223372036854775808) then binN [45] (unN (IntKind.i64.wrap (0 - (v + 1))) 0) (nmN 1) else unN (IntKind.i64.wrap (0 - v)) 0
theorem lnumber0_ok (v : Int) (w : World) (hv : v ≠ -9223372036854775808) : Ret PP fn_l07_number #[.int .i64 v] w fun r w' => RetD (GE w.heap.size) (numT v) r w' ∧ G w w' := by
  have g := G.refl w
  refine ret_of_sc (m := 19) func_l07_number rfl rfl [(0, True, _)] (sub_cons rfl (sub_nil _)) ?_
  refine sc_seq fun K1 hK1 => ?_
  refine sc_text [1] ?_
  refine sr_alloc rfl ze_api_Node rfl ?_
  intro b2 w2 N2
  have l2 := N2.ge g
  have g := g.trans (N2.g)
  have B2 := N2.blk
  refine sr_nil (hK1 _ _ ?_)
  refine sc_seq fun K2 hK2 => ?_
  refine sc_seq fun K3 hK3 => ?_
  refine sc_text [3, 3] ?_
  refine sr_pu rfl (fun _ => rd_move (ev_t rfl)) ?_
  refine sr_pu rfl (fun _ => rd_ge (ev_t rfl) ev_c) ?_
  refine sr_sub [(0, _, _), (2, _, _), (4, _, _)] (sub_cons rfl (sub_cons rfl (sub_cons rfl (sub_nil _)))) ?_
  refine sr_nil (hK3 _ _ ?_)
  refine sc_cond (ev_t rfl) (fun h1 => ?_) (fun h1 => ?_)
  · (try simp only [bsimp] at h1)
    refine sc_seq fun K4 hK4 => ?_
    refine sc_text [3, 3, 2] ?_
    refine sr_pu rfl (fun _ => rd_move (ev_t rfl)) ?_
    refine sr_pu rfl (fun _ => rd_build [_, _, _, _, _, _, _, _, _] ze_api_Node rfl pl_api_Node (parts_cons ev_c (parts_cons (ev_t rfl) (parts_nil))) rfl) ?_
    refine sr_store_all rfl sz_api_Node (ev_t rfl) (ev_t rfl) rfl rfl B2 rfl rfl ?_
    intro wS1 hgS1 hzS1
    clear B2
    intro B2
    have g := g_only g hgS1 (by intro k hk; injection hk with hk; omega)
    refine sr_sub [(0, _, _), (2, _, _)] (sub_cons rfl (sub_cons rfl (sub_nil _))) ?_
    refine sr_nil (hK4 _ _ ?_)
    refine sc_ret (t_retv1 rfl (evr_c rfl agg_api_Node rfl (by first | exact B2.row) (evr_nil)) ?_)
    refine ⟨?_, g⟩
    rw [numT, h1]; exact retD_leaf _ (nmN v) _ rfl
  (try simp only [bsimp] at h1)
  refine sc_skip (hK2 _ _ ?_)
  refine sc_sub [(0, _, _), (2, _, _)] (sub_cons rfl (sub_cons rfl (sub_nil _))) ?_
  refine sc_seq fun K5 hK5 => ?_
  refine sc_seq fun K6 hK6 => ?_
  refine sc_text [3, 3] ?_
  refine sr_pu rfl (fun _ => rd_move (ev_t rfl)) ?_
  refine sr_pu rfl (fun _ => rd_eq (ev_t rfl) ev_c) ?_
  refine sr_sub [(0, _, _), (2, _, _), (8, _, _)] (sub_cons rfl (sub_cons rfl (sub_cons rfl (sub_nil _)))) ?_
  refine sr_nil (hK6 _ _ ?_)
  refine sc_cond (ev_t rfl) (fun h2 => ?_) (fun h2 => ?_)
  · exfalso; exact hv (by simpa using h2)
    done
  (try simp only [bsimp] at h2)
  refine sc_skip (hK5 _ _ ?_)
  refine sc_sub [(0, _, _), (2, _, _)] (sub_cons rfl (sub_cons rfl (sub_nil _))) ?_
  refine sc_seq fun K7 hK7 => ?_
  refine sc_text [3, 3, 3, 1, 3, 2] ?_
  refine sr_pu rfl (fun _ => rd_move (ev_t rfl)) ?_
  refine sr_pu rfl (fun _ => rd_negw (ev_t rfl)) ?_
  refine sr_pu rfl (fun _ => rd_build [_, _, _, _, _, _, _, _, _] ze_api_Node rfl pl_api_Node (parts_cons ev_c (parts_cons (ev_t rfl) (parts_nil))) rfl) ?_
  refine sr_buildSlice [_, _, _, _, _, _, _, _, _] rfl el_sl_api_Node ze_api_Node (parts_cons (ev_t rfl) (parts_nil)) rfl rfl ?_
  intro b17 w17 N17
  have x17_2 := N17.ne B2
  have l17 := N17.ge g
  have g := g.trans (N17.g)
  replace B2 := B2.grow (N17.g)
  have B17 := N17.blk
  refine sr_pu rfl (fun _ => rd_build [_, _, _, _, _, _, _, _, _] ze_api_Node rfl pl_api_Node (parts_cons ev_c (parts_cons ev_c (parts_cons (ev_t rfl) (parts_nil)))) rfl) ?_
  refine sr_store_all rfl sz_api_Node (ev_t rfl) (ev_t rfl) rfl rfl B2 rfl rfl ?_
  intro wS2 hgS2 hzS2
  clear B2
  intro B2
  replace B17 := B17.keep hgS2 (by intro h; injection h with h; first | exact x2_17 h.symm | exact x17_2 h | omega)
  have g := g_only g hgS2 (by intro k hk; injection hk with hk; omega)
  refine sr_sub [(2, _, _)] (sub_cons rfl (sub_nil _)) ?_
  refine sr_nil (hK7 _ _ ?_)
  refine sc_ret (t_retv1 rfl (evr_c rfl agg_api_Node rfl (by first | exact B2.row | exact B17.row) (evr_nil)) ?_)
  refine ⟨?_, g⟩
  rw [numT, h1, h2]; exact ⟨_, _, rfl, kd_row l17 B17.row (krow_one (t := nmN (IntKind.i64.wrap (0 - v))) (kd_nil _ _)) (Nat.le_refl _)⟩
theorem lnumber1_ok (w : World) : Ret PP fn_l07_number #[.int .i64 (-9223372036854775808)] w fun r w' => RetD (GE w.heap.size) (numT (-9223372036854775808)) r w' ∧ G w w' := by
  have g := G.refl w
  refine ret_of_sc (m := 19) func_l07_number rfl rfl [(0, True, _)] (sub_cons rfl (sub_nil _)) ?_
  refine sc_seq fun K1 hK1 => ?_
  refine sc_text [1] ?_
  refine sr_alloc rfl ze_api_Node rfl ?_
  intro b2 w2 N2
  have l2 := N2.ge g
  have g := g.trans (N2.g)
  have B2 := N2.blk
  refine sr_nil (hK1 _ _ ?_)
  refine sc_seq fun K2 hK2 => ?_
  refine sc_seq fun K3 hK3 => ?_
  refine sc_text [3, 3] ?_
  refine sr_pu rfl (fun _ => rd_move (ev_t rfl)) ?_
  refine sr_pu rfl (fun _ => rd_ge (ev_t rfl) ev_c) ?_
  refine sr_sub [(0, _, _), (2, _, _), (4, _, _)] (sub_cons rfl (sub_cons rfl (sub_cons rfl (sub_nil _)))) ?_
  refine sr_nil (hK3 _ _ ?_)
  refine sc_cond (ev_t rfl) (fun h1 => ?_) (fun h1 => ?_)
  · exfalso; cases h1
    done
  (try simp only [bsimp] at h1)
  refine sc_skip (hK2 _ _ ?_)
  refine sc_sub [(0, _, _), (2, _, _)] (sub_cons rfl (sub_cons rfl (sub_nil _))) ?_
  refine sc_seq fun K4 hK4 => ?_
  refine sc_seq fun K5 hK5 => ?_
  refine sc_text [3, 3] ?_
  refine sr_pu rfl (fun _ => rd_move (ev_t rfl)) ?_
  refine sr_pu rfl (fun _ => rd_eq (ev_t rfl) ev_c) ?_
  refine sr_sub [(0, _, _), (2, _, _), (8, _, _)] (sub_cons rfl (sub_cons rfl (sub_cons rfl (sub_nil _)))) ?_
  refine sr_nil (hK5 _ _ ?_)
  refine sc_cond (ev_t rfl) (fun h2 => ?_) (fun h2 => ?_)
  · (try simp only [bsimp] at h2)
    refine sc_seq fun K6 hK6 => ?_
    refine sc_text [3, 3, 1, 1, 1, 2] ?_
    refine sr_pu rfl (fun _ => rd_move (ev_t rfl)) ?_
    refine sr_pu rfl (fun _ => rd_addw (ev_t rfl) ev_c) ?_
    refine sr_call rfl (rc_call go_l07_number ev_f (args_cons (ev_t rfl) (args_nil)) rfl) (lnumber0_ok _ _ (by decide)) ?_
    rintro v11 w11 ⟨⟨p11, c11, rfl, hk11⟩, g11⟩
    refine ⟨fun _ => g11, ?_⟩
    have hlow := g.size
    have hB2 := B2.lt
    have hl11 := g11.size
    have g := g.trans g11
    replace B2 := B2.grow (g11)
    refine sr_call rfl (rc_call go_l07_number ev_f (args_cons ev_c (args_nil)) rfl) (lnumber0_ok _ _ (by decide)) ?_
    rintro v12 w12 ⟨⟨p12, c12, rfl, hk12⟩, g12⟩
    refine ⟨fun _ => g12, ?_⟩
    have hl12 := g12.size
    have g := g.trans g12
    have hk11 := hk11.grow g12
    replace B2 := B2.grow (g12)
    refine sr_call rfl (rc_call go_l07_binary ev_f (args_cons ev_c (args_cons (ev_t rfl) (args_cons (ev_t rfl) (args_nil)))) rfl) (lbinary_ok _ _ _ _ _ _ _ _ hk11 hk12) ?_
    rintro v13 w13 ⟨⟨p13, c13, rfl, hk13⟩, g13⟩
    refine ⟨fun _ => g13, ?_⟩
    have g := g.trans g13
    have hk13 := hk13.mono (D' := GE w2.heap.size) fun b hb _ => by rcases hb with h | h | h <;> (have h : _ ≤ b := h; show w2.heap.size ≤ b; omega)
    replace B2 := B2.grow (g13)
    refine sr_store_all rfl sz_api_Node (ev_t rfl) (ev_t rfl) rfl rfl B2 rfl rfl ?_
    intro wS1 hgS1 hzS1
    clear B2
    intro B2
    have g := g_only g hgS1 (by intro k hk; injection hk with hk; omega)
    have hk13 := hk13.keep hgS1 (fun b hb _ he => by injection he with he; have hb : _ ≤ b := hb; omega)
    refine sr_sub [(0, _, _), (2, _, _)] (sub_cons rfl (sub_cons rfl (sub_nil _))) ?_
    refine sr_nil (hK6 _ _ ?_)
    refine sc_ret (t_retv1 rfl (evr_c rfl agg_api_Node rfl (by first | exact B2.row) (evr_nil)) ?_)
    exact ⟨⟨_, _, rfl, hk13.mono fun b hb _ => Nat.le_trans hlow hb⟩, g⟩
  exfalso; cases h2
  done
theorem lnumber_ok (v : Int) (w : World) : Ret PP fn_l07_number #[.int .i64 v] w fun r w' => RetD (GE w.heap.size) (numT v) r w' ∧ G w w' := by
  by_cases hv : v = -9223372036854775808
  · rw [hv]; exact lnumber1_ok w
  · exact lnumber0_ok v w hv
def prN (n : Nd) : Nd := .mk 21 [] 0 0 [n] ty0 0 0
def blN (n : Nd) : Nd := .mk 10 [] 0 0 [prN n] ty0 0 0
def paN : Nd := .mk 5 [] 0 0 [] ty0 0 0
def noN : Nd := .mk 9 [] 0 0 [] ty0 0 0
def fuN (n : Nd) : Nd := .mk 4 [102] 0 0 [paN, noN, blN n] ty0 0 0
def printT (n : Nd) : Nd := .mk 1 [] 0 0 [fuN n] ty0 0 0
set_option maxHeartbeats 4000000 in
theorem lprinting_ok (n : Nd) (v : Value) (D : Nat → Prop) (w : World) (hk : Kd w D n.kids v) : Ret PP fn_l07_printing #[ndV n v] w fun r w' => RetD (fun k => D k ∨ w.heap.size ≤ k) (printT n) r w' ∧ G w w' := by
  have hk0 : Kd w (fun k => D k ∨ w.heap.size ≤ k) n.kids v := hk.mono fun _ h _ => .inl h
  obtain ⟨p, c, rfl, _⟩ := hk
  have g := G.refl w
  refine ret_of_sc (m := 16) func_l07_printing rfl rfl [(0, True, _)] (sub_cons rfl (sub_nil _)) ?_
  refine sc_seq fun K1 hK1 => ?_
  refine sc_text [1, 1] ?_
  refine sr_box rfl (ev_t rfl) rfl ?_
  intro b1 w1 N1
  have l1 := N1.ge g
  have g := g.trans (N1.g)
  have B1 := N1.blk
  refine sr_alloc rfl ze_api_Node rfl ?_
  intro b2 w2 N2
  have x2_1 := N2.ne B1
  have l2 := N2.ge g
  have g := g.trans (N2.g)
  replace B1 := B1.grow (N2.g)
  have B2 := N2.blk
  refine sr_sub [(1, _, _), (2, _, _)] (sub_cons rfl (sub_cons rfl (sub_nil _))) ?_
  refine sr_nil (hK1 _ _ ?_)
  refine sc_seq fun K2 hK2 => ?_
  refine sc_text [0, 1, 3, 1, 3, 1, 2] ?_
  refine sr_rd rfl (rd_loads agg_api_Node (ev_t rfl) rfl (fun _ => B1.row)) ?_
  refine sr_buildSlice [_, _, _, _, _, _, _, _, _] rfl el_sl_api_Node ze_api_Node (parts_cons (ev_t rfl) (parts_nil)) rfl rfl ?_
  intro b5 w5 N5
  have x5_1 := N5.ne B1
  have x5_2 := N5.ne B2
  have l5 := N5.ge g
  have g := g.trans (N5.g)
  replace B1 := B1.grow (N5.g)
  replace B2 := B2.grow (N5.g)
  have B5 := N5.blk
  refine sr_pu rfl (fun _ => rd_build [_, _, _, _, _, _, _, _, _] ze_api_Node rfl pl_api_Node (parts_cons ev_c (parts_cons (ev_t rfl) (parts_nil))) rfl) ?_
  refine sr_buildSlice [_, _, _, _, _, _, _, _, _] rfl el_sl_api_Node ze_api_Node (parts_cons (ev_t rfl) (parts_nil)) rfl rfl ?_
  intro b7 w7 N7
  have x7_1 := N7.ne B1
  have x7_2 := N7.ne B2
  have x7_5 := N7.ne B5
  have l7 := N7.ge g
  have g := g.trans (N7.g)
  replace B1 := B1.grow (N7.g)
  replace B2 := B2.grow (N7.g)
  replace B5 := B5.grow (N7.g)
  have B7 := N7.blk
  refine sr_pu rfl (fun _ => rd_build [_, _, _, _, _, _, _, _, _] ze_api_Node rfl pl_api_Node (parts_cons ev_c (parts_cons (ev_t rfl) (parts_nil))) rfl) ?_
  refine sr_alloc rfl ze_api_Node rfl ?_
  intro b3 w3 N3
  have x3_1 := N3.ne B1
  have x3_2 := N3.ne B2
  have x3_5 := N3.ne B5
  have x3_7 := N3.ne B7
  have l3 := N3.ge g
  have g := g.trans (N3.g)
  replace B1 := B1.grow (N3.g)
  replace B2 := B2.grow (N3.g)
  replace B5 := B5.grow (N3.g)
  replace B7 := B7.grow (N3.g)
  have B3 := N3.blk
  refine sr_store_all rfl sz_api_Node (ev_t rfl) (ev_t rfl) rfl rfl B3 rfl rfl ?_
  intro wS1 hgS1 hzS1
  clear B3
  intro B3
  replace B1 := B1.keep hgS1 (by intro h; injection h with h; first | exact x3_1 h.symm | exact x1_3 h | omega)
  replace B2 := B2.keep hgS1 (by intro h; injection h with h; first | exact x3_2 h.symm | exact x2_3 h | omega)
  replace B5 := B5.keep hgS1 (by intro h; injection h with h; first | exact x3_5 h.symm | exact x5_3 h | omega)
  replace B7 := B7.keep hgS1 (by intro h; injection h with h; first | exact x3_7 h.symm | exact x7_3 h | omega)
  have g := g_only g hgS1 (by intro k hk; injection hk with hk; omega)
  refine sr_sub [(2, _, _), (3, _, _)] (sub_cons rfl (sub_cons rfl (sub_nil _))) ?_
  refine sr_nil (hK2 _ _ ?_)
  refine sc_seq fun K3 hK3 => ?_
  refine sc_text [3, 3, 0, 1, 3, 1, 3, 2] ?_
  refine sr_pu rfl (fun _ => rd_build [_, _, _, _, _, _, _, _, _] ze_api_Node rfl pl_api_Node (parts_cons ev_c (parts_nil)) rfl) ?_
  refine sr_pu rfl (fun _ => rd_build [_, _, _, _, _, _, _, _, _] ze_api_Node rfl pl_api_Node (parts_cons ev_c (parts_nil)) rfl) ?_
  refine sr_rd rfl (rd_loads agg_api_Node (ev_t rfl) rfl (fun _ => B3.row)) ?_
  refine sr_buildSlice [_, _, _, _, _, _, _, _, _, _, _, _, _, _, _, _, _, _, _, _, _, _, _, _, _, _, _] rfl el_sl_api_Node ze_api_Node (parts_cons (ev_t rfl) (parts_cons (ev_t rfl) (parts_cons (ev_t rfl) (parts_nil)))) rfl rfl ?_
  intro b12 w12 N12
  have x12_1 := N12.ne B1
  have x12_2 := N12.ne B2
  have x12_5 := N12.ne B5
  have x12_7 := N12.ne B7
  have x12_3 := N12.ne B3
  have l12 := N12.ge g
  have g := g.trans (N12.g)
  replace B1 := B1.grow (N12.g)
  replace B2 := B2.grow (N12.g)
  replace B5 := B5.grow (N12.g)
  replace B7 := B7.grow (N12.g)
  replace B3 := B3.grow (N12.g)
  have B12 := N12.blk
  refine sr_pu rfl (fun _ => rd_build [_, _, _, _, _, _, _, _, _] ze_api_Node rfl pl_api_Node (parts_cons ev_c (parts_cons ev_c (parts_cons (ev_t rfl) (parts_nil)))) rfl) ?_
  refine sr_buildSlice [_, _, _, _, _, _, _, _, _] rfl el_sl_api_Node ze_api_Node (parts_cons (ev_t rfl) (parts_nil)) rfl rfl ?_
  intro b14 w14 N14
  have x14_1 := N14.ne B1
  have x14_2 := N14.ne B2
  have x14_5 := N14.ne B5
  have x14_7 := N14.ne B7
  have x14_3 := N14.ne B3
  have x14_12 := N14.ne B12
  have l14 := N14.ge g
  have g := g.trans (N14.g)
  replace B1 := B1.grow (N14.g)
  replace B2 := B2.grow (N14.g)
  replace B5 := B5.grow (N14.g)
  replace B7 := B7.grow (N14.g)
  replace B3 := B3.grow (N14.g)
  replace B12 := B12.grow (N14.g)
  have B14 := N14.blk
  refine sr_pu rfl (fun _ => rd_build [_, _, _, _, _, _, _, _, _] ze_api_Node rfl pl_api_Node (parts_cons ev_c (parts_cons (ev_t rfl) (parts_nil))) rfl) ?_
  refine sr_store_all rfl sz_api_Node (ev_t rfl) (ev_t rfl) rfl rfl B2 rfl rfl ?_
  intro wS2 hgS2 hzS2
  clear B2
  intro B2
  replace B1 := B1.keep hgS2 (by intro h; injection h with h; first | exact x2_1 h.symm | exact x1_2 h | omega)
  replace B5 := B5.keep hgS2 (by intro h; injection h with h; first | exact x2_5 h.symm | exact x5_2 h | omega)
  replace B7 := B7.keep hgS2 (by intro h; injection h with h; first | exact x2_7 h.symm | exact x7_2 h | omega)
  replace B3 := B3.keep hgS2 (by intro h; injection h with h; first | exact x2_3 h.symm | exact x3_2 h | omega)
  replace B12 := B12.keep hgS2 (by intro h; injection h with h; first | exact x2_12 h.symm | exact x12_2 h | omega)
  replace B14 := B14.keep hgS2 (by intro h; injection h with h; first | exact x2_14 h.symm | exact x14_2 h | omega)
  have g := g_only g hgS2 (by intro k hk; injection hk with hk; omega)
  refine sr_sub [(2, _, _)] (sub_cons rfl (sub_nil _)) ?_
  refine sr_nil (hK3 _ _ ?_)
  refine sc_ret (t_retv1 rfl (evr_c rfl agg_api_Node rfl (by first | exact B1.row | exact B2.row | exact B5.row | exact B7.row | exact B3.row | exact B12.row | exact B14.row) (evr_nil)) ?_)
  have k5 := kd_one (.inr l5) B5 (hk0.grow g)
  have k7 := kd_one (t := prN n) (.inr l7) B7 k5
  have k12 : Kd _ _ [paN, noN, blN n] (.slice (some ⟨b12, 0, none⟩) 3 3) := kd_row (.inr l12) B12.row (krow_cons (t := paN) (kd_nil _ _) (krow_cons (t := noN) (kd_nil _ _) (krow_one (t := blN n) k7))) (Nat.le_refl _)
  have k14 := kd_one (t := fuN n) (.inr l14) B14 k12
  exact ⟨⟨_, _, rfl, k14⟩, g⟩
theorem nb1 {a : Bool} (h : (!a) = false) : a = true := by cases a; cases h; rfl
theorem nb2 {a b : Bool} (h : (!a || !b) = false) : a = true ∧ b = true := by cases a <;> cases b <;> first | exact ⟨rfl, rfl⟩ | cases h
theorem nb3 {a b c : Bool} (h : ((!a || !b) || !c) = false) : a = true ∧ b = true ∧ c = true := by cases a <;> cases b <;> cases c <;> first | exact ⟨rfl, rfl, rfl⟩ | cases h
theorem nb4 {a b c d : Bool} (h : (((!a || !b) || !c) || !d) = false) : a = true ∧ b = true ∧ c = true ∧ d = true := by cases a <;> cases b <;> cases c <;> cases d <;> first | exact ⟨rfl, rfl, rfl, rfl⟩ | cases h
def printedT (t : Nd) : Nd := bif ((!lenK t 1 || !lenK (kidAt t 0) 3) || !lenK (kidAt (kidAt t 0) 2) 1) || !lenK (kidAt (kidAt (kidAt t 0) 2) 0) 1 then nd0 else kidAt (kidAt (kidAt (kidAt t 0) 2) 0) 0
theorem lprinted_ok (t : Nd) (v : Value) (D : Nat → Prop) (w : World) (hk : Kd w D t.kids v) : Ret PP fn_l07_printed #[ndV t v] w fun r w' => RetD D (printedT t) r w' ∧ G w w' := by
  obtain ⟨p, c, rfl, hcap, hks⟩ := hk
  have hk0 : Kd w D t.kids (.slice p t.kids.length c) := ⟨p, c, rfl, hcap, hks⟩
  have g := G.refl w
  have h0x : ∃ p' c', lenK t 1 = true → p = some ⟨pb p, po p, none⟩ ∧ RowAt w (pb p) (po p + 0 * 9) (ndCells (kidAt t 0) (.slice p' (kidAt t 0).kids.length c')) ∧ Kd w D (kidAt t 0).kids (.slice p' (kidAt t 0).kids.length c') := by
    obtain ⟨p', c', h⟩ := kd_optx hk0 0
    exact ⟨p', c', fun hl => h (by (have hz := hl; first | (unfold lenK at hz; simp at hz; omega) | (simp at hz; omega)))⟩
  obtain ⟨p0, c0, h0x⟩ := h0x
  have h1x : ∃ p' c', lenK t 1 = true → lenK (kidAt t 0) 3 = true → p0 = some ⟨pb p0, po p0, none⟩ ∧ RowAt w (pb p0) (po p0 + 2 * 9) (ndCells (kidAt (kidAt t 0) 2) (.slice p' (kidAt (kidAt t 0) 2).kids.length c')) ∧ Kd w D (kidAt (kidAt t 0) 2).kids (.slice p' (kidAt (kidAt t 0) 2).kids.length c') := by
    by_cases hl : lenK t 1 = true
    · obtain ⟨p', c', h⟩ := kd_optx (h0x hl).2.2 2
      exact ⟨p', c', fun _ hl => h (by (have hz := hl; first | (unfold lenK at hz; simp at hz; omega) | (simp at hz; omega)))⟩
    · exact ⟨none, 0, fun h => absurd h hl⟩
  obtain ⟨p1, c1, h1x⟩ := h1x
  have h2x : ∃ p' c', lenK t 1 = true → lenK (kidAt t 0) 3 = true → lenK (kidAt (kidAt t 0) 2) 1 = true → p1 = some ⟨pb p1, po p1, none⟩ ∧ RowAt w (pb p1) (po p1 + 0 * 9) (ndCells (kidAt (kidAt (kidAt t 0) 2) 0) (.slice p' (kidAt (kidAt (kidAt t 0) 2) 0).kids.length c')) ∧ Kd w D (kidAt (kidAt (kidAt t 0) 2) 0).kids (.slice p' (kidAt (kidAt (kidAt t 0) 2) 0).kids.length c') := by
    by_cases hl : lenK t 1 = true
    · by_cases hl1 : lenK (kidAt t 0) 3 = true
      · obtain ⟨p', c', h⟩ := kd_optx (h1x hl hl1).2.2 0
        exact ⟨p', c', fun _ _ hl => h (by (have hz := hl; first | (unfold lenK at hz; simp at hz; omega) | (simp at hz; omega)))⟩
      · exact ⟨none, 0, fun _ h => absurd h hl1⟩
    · exact ⟨none, 0, fun h => absurd h hl⟩
  obtain ⟨p2, c2, h2x⟩ := h2x
  refine ret_of_sc (m := 57) func_l07_printed rfl rfl [(0, True, _)] (sub_cons rfl (sub_nil _)) ?_
  refine sc_seq fun K1 hK1 => ?_
  refine sc_text [1, 1] ?_
  refine sr_box rfl (ev_t rfl) rfl ?_
  intro b1 w1 N1
  have l1 := N1.ge g
  have g := g.trans (N1.g)
  have B1 := N1.blk
  refine sr_alloc rfl ze_api_Node rfl ?_
  intro b2 w2 N2
  have x2_1 := N2.ne B1
  have l2 := N2.ge g
  have g := g.trans (N2.g)
  replace B1 := B1.grow (N2.g)
  have B2 := N2.blk
  refine sr_sub [(1, _, _), (2, _, _)] (sub_cons rfl (sub_cons rfl (sub_nil _))) ?_
  refine sr_nil (hK1 _ _ ?_)
  refine sc_seq fun K2 hK2 => ?_
  refine sc_seq fun K3 hK3 => ?_
  refine sc_text [3, 0, 3, 3, 3, 3, 0, 3, 3, 0, 3, 3, 3, 3, 3, 0, 3, 3, 0, 3, 3, 0, 3, 3, 3, 3, 3, 0, 3, 3, 0, 3, 3, 0, 3, 3, 0, 3, 3, 3] ?_
  refine sr_pu rfl (fun _ => rd_field fo_api_Node_4 (ev_t rfl)) ?_
  refine sr_rd rfl (rd_load one_sl_api_Node (ev_t rfl) (fun _ => B1.at_ rfl)) ?_
  refine sr_pu rfl (fun _ => rd_len el_sl_api_Node (ev_t rfl)) ?_
  refine sr_pu rfl (fun _ => rd_ne (ev_t rfl) ev_c) ?_
  refine sr_pu rfl (fun _ => rd_move (ev_t rfl)) ?_
  refine sr_pug rfl rfl rfl (fun _ => rd_field fo_api_Node_4 (ev_t rfl)) ?_
  refine sr_rdg rfl rfl rfl (rd_load one_sl_api_Node (ev_u rfl id) (fun _ => B1.at_ rfl)) ?_
  refine sr_pug rfl rfl rfl (fun _ => rd_idxq el_sl_api_Node (ev_u rfl id) ev_c (fun hc => by (have hz := (nb1 hc.2); first | (unfold lenK at hz; simp at hz; omega) | (simp at hz; omega))) (fun hc => (h0x (nb1 hc.2)).1)) ?_
  refine sr_pug rfl rfl rfl (fun _ => rd_field fo_api_Node_4 (ev_u rfl id)) ?_
  refine sr_rdg rfl rfl rfl (rd_load one_sl_api_Node (ev_u rfl id) (fun hc => ((h0x (nb1 hc.2)).2.1.grow g) 4 _ rfl)) ?_
  refine sr_pug rfl rfl rfl (fun _ => rd_len el_sl_api_Node (ev_u rfl id)) ?_
  refine sr_pug rfl rfl rfl (fun _ => rd_ne (ev_u rfl id) ev_c) ?_
  refine sr_pu rfl (fun _ => rd_pick_or (ev_t rfl) (ev_u rfl id)) ?_
  refine sr_pu rfl (fun _ => rd_move (ev_t rfl)) ?_
  refine sr_pug rfl rfl rfl (fun _ => rd_field fo_api_Node_4 (ev_t rfl)) ?_
  refine sr_rdg rfl rfl rfl (rd_load one_sl_api_Node (ev_u rfl id) (fun _ => B1.at_ rfl)) ?_
  refine sr_pug rfl rfl rfl (fun _ => rd_idxq el_sl_api_Node (ev_u rfl id) ev_c (fun hc => by (have hz := (nb2 hc.2).1; first | (unfold lenK at hz; simp at hz; omega) | (simp at hz; omega))) (fun hc => (h0x (nb2 hc.2).1).1)) ?_
  refine sr_pug rfl rfl rfl (fun _ => rd_field fo_api_Node_4 (ev_u rfl id)) ?_
  refine sr_rdg rfl rfl rfl (rd_load one_sl_api_Node (ev_u rfl id) (fun hc => ((h0x (nb2 hc.2).1).2.1.grow g) 4 _ rfl)) ?_
  refine sr_pug rfl rfl rfl (fun _ => rd_idxq el_sl_api_Node (ev_u rfl id) ev_c (fun hc => by (have hz := (nb2 hc.2).2; first | (unfold lenK at hz; simp at hz; omega) | (simp at hz; omega))) (fun hc => (h1x (nb2 hc.2).1 (nb2 hc.2).2).1)) ?_
  refine sr_pug rfl rfl rfl (fun _ => rd_field fo_api_Node_4 (ev_u rfl id)) ?_
  refine sr_rdg rfl rfl rfl (rd_load one_sl_api_Node (ev_u rfl id) (fun hc => ((h1x (nb2 hc.2).1 (nb2 hc.2).2).2.1.grow g) 4 _ rfl)) ?_
  refine sr_pug rfl rfl rfl (fun _ => rd_len el_sl_api_Node (ev_u rfl id)) ?_
  refine sr_pug rfl rfl rfl (fun _ => rd_ne (ev_u rfl id) ev_c) ?_
  refine sr_pu rfl (fun _ => rd_pick_or (ev_t rfl) (ev_u rfl id)) ?_
  refine sr_pu rfl (fun _ => rd_move (ev_t rfl)) ?_
  refine sr_pug rfl rfl rfl (fun _ => rd_field fo_api_Node_4 (ev_t rfl)) ?_
  refine sr_rdg rfl rfl rfl (rd_load one_sl_api_Node (ev_u rfl id) (fun _ => B1.at_ rfl)) ?_
  refine sr_pug rfl rfl rfl (fun _ => rd_idxq el_sl_api_Node (ev_u rfl id) ev_c (fun hc => by (have hz := (nb3 hc.2).1; first | (unfold lenK at hz; simp at hz; omega) | (simp at hz; omega))) (fun hc => (h0x (nb3 hc.2).1).1)) ?_
  refine sr_pug rfl rfl rfl (fun _ => rd_field fo_api_Node_4 (ev_u rfl id)) ?_
  refine sr_rdg rfl rfl rfl (rd_load one_sl_api_Node (ev_u rfl id) (fun hc => ((h0x (nb3 hc.2).1).2.1.grow g) 4 _ rfl)) ?_
  refine sr_pug rfl rfl rfl (fun _ => rd_idxq el_sl_api_Node (ev_u rfl id) ev_c (fun hc => by (have hz := (nb3 hc.2).2.1; first | (unfold lenK at hz; simp at hz; omega) | (simp at hz; omega))) (fun hc => (h1x (nb3 hc.2).1 (nb3 hc.2).2.1).1)) ?_
  refine sr_pug rfl rfl rfl (fun _ => rd_field fo_api_Node_4 (ev_u rfl id)) ?_
  refine sr_rdg rfl rfl rfl (rd_load one_sl_api_Node (ev_u rfl id) (fun hc => ((h1x (nb3 hc.2).1 (nb3 hc.2).2.1).2.1.grow g) 4 _ rfl)) ?_
  refine sr_pug rfl rfl rfl (fun _ => rd_idxq el_sl_api_Node (ev_u rfl id) ev_c (fun hc => by (have hz := (nb3 hc.2).2.2; first | (unfold lenK at hz; simp at hz; omega) | (simp at hz; omega))) (fun hc => (h2x (nb3 hc.2).1 (nb3 hc.2).2.1 (nb3 hc.2).2.2).1)) ?_
  refine sr_pug rfl rfl rfl (fun _ => rd_field fo_api_Node_4 (ev_u rfl id)) ?_
  refine sr_rdg rfl rfl rfl (rd_load one_sl_api_Node (ev_u rfl id) (fun hc => ((h2x (nb3 hc.2).1 (nb3 hc.2).2.1 (nb3 hc.2).2.2).2.1.grow g) 4 _ rfl)) ?_
  refine sr_pug rfl rfl rfl (fun _ => rd_len el_sl_api_Node (ev_u rfl id)) ?_
  refine sr_pug rfl rfl rfl (fun _ => rd_ne (ev_u rfl id) ev_c) ?_
  refine sr_pu rfl (fun _ => rd_pick_or (ev_t rfl) (ev_u rfl id)) ?_
  refine sr_sub [(1, _, _), (2, _, _), (42, _, _)] (sub_cons rfl (sub_cons rfl (sub_cons rfl (sub_nil _)))) ?_
  refine sr_nil (hK3 _ _ ?_)
  refine sc_cond (ev_t rfl) (fun h1 => ?_) (fun h1 => ?_)
  · (try simp only [bsimp] at h1)
    refine sc_seq fun K4 hK4 => ?_
    refine sc_text [3, 2] ?_
    refine sr_pu rfl (fun _ => rd_build [_, _, _, _, _, _, _, _, _] ze_api_Node rfl pl_api_Node (parts_nil) rfl) ?_
    refine sr_store_all rfl sz_api_Node (ev_t rfl) (ev_t rfl) rfl rfl B2 rfl rfl ?_
    intro wS1 hgS1 hzS1
    clear B2
    intro B2
    replace B1 := B1.keep hgS1 (by intro h; injection h with h; first | exact x2_1 h.symm | exact x1_2 h | omega)
    have g := g_only g hgS1 (by intro k hk; injection hk with hk; omega)
    refine sr_sub [(1, _, _), (2, _, _)] (sub_cons rfl (sub_cons rfl (sub_nil _))) ?_
    refine sr_nil (hK4 _ _ ?_)
    refine sc_ret (t_retv1 rfl (evr_c rfl agg_api_Node rfl (by first | exact B1.row | exact B2.row) (evr_nil)) ?_)
    refine ⟨?_, g⟩
    rw [printedT, show (((!lenK t 1 || !lenK (kidAt t 0) 3) || !lenK (kidAt (kidAt t 0) 2) 1) || !lenK (kidAt (kidAt (kidAt t 0) 2) 0) 1) = true from h1]; exact retD_leaf _ nd0 _ rfl
  obtain ⟨q0, q1, q2, q3⟩ := nb4 h1
  obtain ⟨e0, r0, k0⟩ := h0x q0
  obtain ⟨e1, r1, k1⟩ := h1x q0 q1
  obtain ⟨e2, r2, k2⟩ := h2x q0 q1 q2
  have q0 : t.kids.length = 1 := by (have hz := q0; first | (unfold lenK at hz; simp at hz; omega) | (simp at hz; omega))
  have q1 : (kidAt t 0).kids.length = 3 := by (have hz := q1; first | (unfold lenK at hz; simp at hz; omega) | (simp at hz; omega))
  have q2 : (kidAt (kidAt t 0) 2).kids.length = 1 := by (have hz := q2; first | (unfold lenK at hz; simp at hz; omega) | (simp at hz; omega))
  have q3 : (kidAt (kidAt (kidAt t 0) 2) 0).kids.length = 1 := by (have hz := q3; first | (unfold lenK at hz; simp at hz; omega) | (simp at hz; omega))
  obtain ⟨e3, p3, c3, r3, k3⟩ := kd_opt k2 (i := 0) (by omega)
  refine sc_skip (hK2 _ _ ?_)
  refine sc_sub [(1, _, _), (2, _, _)] (sub_cons rfl (sub_cons rfl (sub_nil _))) ?_
  refine sc_seq fun K5 hK5 => ?_
  refine sc_text [3, 0, 3, 3, 0, 3, 3, 0, 3, 3, 0, 3, 0, 2] ?_
  refine sr_pu rfl (fun _ => rd_field fo_api_Node_4 (ev_t rfl)) ?_
  refine sr_rd rfl (rd_load one_sl_api_Node (ev_t rfl) (fun _ => B1.at_ rfl)) ?_
  refine sr_pu rfl (fun _ => rd_idxq el_sl_api_Node (ev_t rfl) ev_c (fun _ => by omega) (fun _ => e0)) ?_
  refine sr_pu rfl (fun _ => rd_field fo_api_Node_4 (ev_t rfl)) ?_
  refine sr_rd rfl (rd_load one_sl_api_Node (ev_t rfl) (fun _ => (r0.grow g) 4 _ rfl)) ?_
  refine sr_pu rfl (fun _ => rd_idxq el_sl_api_Node (ev_t rfl) ev_c (fun _ => by omega) (fun _ => e1)) ?_
  refine sr_pu rfl (fun _ => rd_field fo_api_Node_4 (ev_t rfl)) ?_
  refine sr_rd rfl (rd_load one_sl_api_Node (ev_t rfl) (fun _ => (r1.grow g) 4 _ rfl)) ?_
  refine sr_pu rfl (fun _ => rd_idxq el_sl_api_Node (ev_t rfl) ev_c (fun _ => by omega) (fun _ => e2)) ?_
  refine sr_pu rfl (fun _ => rd_field fo_api_Node_4 (ev_t rfl)) ?_
  refine sr_rd rfl (rd_load one_sl_api_Node (ev_t rfl) (fun _ => (r2.grow g) 4 _ rfl)) ?_
  refine sr_pu rfl (fun _ => rd_idxq el_sl_api_Node (ev_t rfl) ev_c (fun _ => by omega) (fun _ => e3)) ?_
  refine sr_rd rfl (rd_loads agg_api_Node (ev_t rfl) rfl (fun _ => r3.grow g)) ?_
  refine sr_store_all rfl sz_api_Node (ev_t rfl) (ev_t rfl) rfl rfl B2 rfl rfl ?_
  intro wS2 hgS2 hzS2
  clear B2
  intro B2
  replace B1 := B1.keep hgS2 (by intro h; injection h with h; first | exact x2_1 h.symm | exact x1_2 h | omega)
  have g := g_only g hgS2 (by intro k hk; injection hk with hk; omega)
  refine sr_sub [(2, _, _)] (sub_cons rfl (sub_nil _)) ?_
  refine sr_nil (hK5 _ _ ?_)
  refine sc_ret (t_retv1 rfl (evr_c rfl agg_api_Node rfl (by first | exact B1.row | exact B2.row) (evr_nil)) ?_)
  refine ⟨?_, g⟩
  rw [printedT, show (((!lenK t 1 || !lenK (kidAt t 0) 3) || !lenK (kidAt (kidAt t 0) 2) 1) || !lenK (kidAt (kidAt (kidAt t 0) 2) 0) 1) = false from h1]; exact retD_of (k3.grow g)
end Go.Rk
namespace Go.Rk
open Go Go.RowKit
/-- The value, if there is one. -/
def valO (t : Nd) : Option Cst := bif (valC t).2 then some (valC t).1 else none
def oneO (t : Nd) (x : Option Cst) : Option Cst := match x with
  | some c => bif decide (t.text = [45]) && !c.1 then some (false, IntKind.i64.wrap (0 - c.2)) else bif decide (t.text = [33]) && c.1 then some (true, IntKind.i64.wrap (1 - c.2)) else none
  | none => none
def twoO (op : List UInt8) (x y : Option Cst) : Option Cst := match x, y with
  | some a, some b => bif a.1 == b.1 then (bif (binF op a b).2 then some (binF op a b).1 else none) else none
  | _, _ => none
def oF (t : Nd) (r : Nat → Option Cst) : Option Cst :=
  bif decide (t.kind = 24) then (bif (decide (0 ≤ t.num) && plainB t) && lenK t 0 then some (false, t.num) else none)
  else bif decide (t.kind = 25) then (bif ((decide (t.num = 0) || decide (t.num = 1)) && plainB t) && lenK t 0 then some (true, t.num) else none)
  else bif decide (t.kind = 31) && lenK t 1 then oneO t (r 0)
  else bif decide (t.kind = 32) && lenK t 2 then twoO t.text (r 0) (r 1)
  else none
theorem valO_eq (t : Nd) : valO t = oF t fun i => valO (kidAt t i) := by
  rw [valO, valC_eq, valF, oF]
  cases decide (t.kind = 24) with
  | true => rfl
  | false =>
  cases decide (t.kind = 25) with
  | true => rfl
  | false =>
  cases decide (t.kind = 31) && lenK t 1 with
  | true =>
    simp only [cond_true, cond_false, valO, oneO]
    cases (valC (kidAt t 0)).2 with
    | false => rfl
    | true =>
      simp only [Bool.true_and, cond_true]
      cases decide (t.text = [45]) <;> cases decide (t.text = [33]) <;> cases (valC (kidAt t 0)).1.1 <;> rfl
  | false =>
  cases decide (t.kind = 32) && lenK t 2 with
  | true =>
    simp only [cond_true, cond_false, valO, twoO]
    cases (valC (kidAt t 0)).2 <;> cases (valC (kidAt t 1)).2 <;> first | rfl | skip
    simp only [Bool.true_and, cond_true]
    cases (valC (kidAt t 0)).1.1 == (valC (kidAt t 1)).1.1 <;> rfl
  | false => rfl
theorem valO_iff {t : Nd} {c : Cst} : valO t = some c ↔ (valC t).2 = true ∧ (valC t).1 = c := by
  rw [valO]; cases (valC t).2 <;> simp
theorem valO_kind {t : Nd} {c : Cst} (h : valO t = some c) : t.kind = 24 ∨ t.kind = 25 ∨ (t.kind = 31 ∧ t.kids.length = 1) ∨ (t.kind = 32 ∧ t.kids.length = 2) := by
  rw [valO_eq, oF] at h
  by_cases h1 : t.kind = 24
  · exact .inl h1
  by_cases h2 : t.kind = 25
  · exact .inr (.inl h2)
  rw [decide_eq_false h1, decide_eq_false h2] at h
  cases h3 : decide (t.kind = 31) && lenK t 1 with
  | true =>
    rw [Bool.and_eq_true, decide_eq_true_eq] at h3
    exact .inr (.inr (.inl ⟨h3.1, by (have hz := h3.2; first | (unfold lenK at hz; simp at hz; omega) | (simp at hz; omega))⟩))
  | false =>
    cases h4 : decide (t.kind = 32) && lenK t 2 with
    | true =>
      rw [Bool.and_eq_true, decide_eq_true_eq] at h4
      exact .inr (.inr (.inr ⟨h4.1, by (have hz := h4.2; first | (unfold lenK at hz; simp at hz; omega) | (simp at hz; omega))⟩))
    | false => rw [h3, h4] at h; cases h
theorem wrap_rng (x : Int) : rng (IntKind.i64.wrap x) := by
  rw [IntKind.wrap_i64, rng]; omega
def RngOk (x : Cst × Bool) : Prop := rng x.1.2
theorem ro_cond {c : Bool} {a b : Cst × Bool} (ha : RngOk a) (hb : RngOk b) : RngOk (bif c then a else b) := by cases c; exact hb; exact ha
theorem ro_tr (b : Bool) : RngOk (trC b) := by cases b <;> exact ⟨by decide, by decide⟩
theorem ro_wr (n : Int) : RngOk (nmC (IntKind.i64.wrap n)) := wrap_rng n
theorem ro_zc : RngOk zc := ⟨by decide, by decide⟩
theorem ro_mod {x y : Int} (hx : rng x) : RngOk (nmC (x.tmod y)) := by
  have h : (x.tmod y).natAbs ≤ x.natAbs := by rw [Int.natAbs_tmod]; exact Nat.mod_le _ _
  show rng (x.tmod y)
  unfold rng at hx ⊢
  by_cases hm : x = -9223372036854775808
  · have : (x.tmod y) ≤ 0 := by
      have := Int.tmod_nonneg y (a := -x) (by omega)
      rw [Int.neg_tmod] at this; omega
    omega
  · omega
theorem binF_rng (op : List UInt8) {x y : Cst} (hx : rng x.2) : RngOk (binF op x y) := by
  unfold binF
  repeat' (first | exact ro_tr _ | exact ro_zc | exact ro_wr _ | exact ro_mod hx | refine ro_cond ?_ ?_)
def RO (x : Option Cst) : Prop := ∀ c, x = some c → rng c.2
theorem rO_cond {c : Bool} {a b : Option Cst} (ha : RO a) (hb : RO b) : RO (bif c then a else b) := by cases c; exact hb; exact ha
theorem rO_none : RO none := fun c h => by cases h
theorem rO_some {b : Bool} {n : Int} (h : rng n) : RO (some (b, n)) := fun c hc => by injection hc with hc; rw [← hc]; exact h
theorem rO_one (t : Nd) (x : Option Cst) : RO (oneO t x) := by
  cases x with
  | none => exact rO_none
  | some c => exact rO_cond (rO_some (wrap_rng _)) (rO_cond (rO_some (wrap_rng _)) rO_none)
theorem rO_two (op : List UInt8) {x y : Option Cst} (hx : RO x) : RO (twoO op x y) := by
  cases x with
  | none => exact rO_none
  | some a =>
    cases y with
    | none => exact rO_none
    | some b => exact rO_cond (rO_cond (fun c hc => by injection hc with hc; rw [← hc]; exact binF_rng op (hx a rfl)) rO_none) rO_none
theorem valO_nd0 : valO nd0 = none := by rw [valO, valC_nd0]; rfl
theorem valO_ok : ∀ t, okNd t → ∀ c, valO t = some c → rng c.2 ∧ (c.1 = true → c.2 = 0 ∨ c.2 = 1) := by
  refine Nd.ind fun t ih hk c hc => ?_
  refine ⟨?_, fun hb => ?_⟩
  · have hkid : ∀ i, RO (valO (kidAt t i)) := fun i c h => by
      by_cases hi : i < t.kids.length
      · rw [kidAt_eq hi] at h; exact (ih _ (List.getElem_mem hi) (okNd_kid hk (List.getElem_mem hi)) c h).1
      · rw [kidAt_out hi, valO_nd0] at h; cases h
    have hnum : rng t.num := by rw [okNd_eq] at hk; exact hk.2.1
    have h : RO (valO t) := by
      rw [valO_eq, oF]
      exact rO_cond (rO_cond (rO_some hnum) rO_none) (rO_cond (rO_cond (rO_some hnum) rO_none) (rO_cond (rO_one _ _) (rO_cond (rO_two _ (hkid 0)) rO_none)))
    exact h c hc
  · obtain ⟨h1, rfl⟩ := valO_iff.1 hc
    exact valC_bool t h1 hb
/-! replaced constants -/
def nmP (n pos : Int) : Nd := .mk 24 [] n pos [] ty0 0 0
def boP (n pos : Int) : Nd := .mk 25 [] n pos [] ty0 0 0
theorem wrap_neg {x : Int} (h : rng x) (hm : x ≠ -9223372036854775808) : IntKind.i64.wrap (0 - x) = -x := by
  unfold rng at h; rw [i64_id ⟨by omega, by omega⟩]; omega
/-- What a constant is replaced by. -/
theorem repl_cases {c : Cst} {pos : Int} (hr : rng c.2) (h : (replT c pos).2 = true) : (c.1 = true ∧ (replT c pos).1 = boP c.2 pos) ∨ (c.1 = false ∧ 0 ≤ c.2 ∧ (replT c pos).1 = nmP c.2 pos) ∨ (c.1 = false ∧ c.2 < 0 ∧ c.2 ≠ -9223372036854775808 ∧ (replT c pos).1 = unN (-c.2) pos) := by
  unfold replT at h ⊢
  cases hc : c.1 with
  | true => exact .inl ⟨rfl, rfl⟩
  | false =>
    rw [hc] at h
    by_cases h0 : 0 ≤ c.2
    · rw [decide_eq_true h0]; exact .inr (.inl ⟨rfl, h0, rfl⟩)
    · rw [decide_eq_false h0] at h ⊢
      by_cases h1 : c.2 = -9223372036854775808
      · rw [decide_eq_true h1] at h; cases h
      · rw [decide_eq_false h1]
        refine .inr (.inr ⟨rfl, by omega, h1, ?_⟩)
        show unN (IntKind.i64.wrap (0 - c.2)) pos = _
        rw [wrap_neg hr h1]
/-! folded trees, case by case -/
def rebT (t : Nd) : Nd := .mk t.kind t.text (bif decide (t.kind = 24) || decide (t.kind = 25) then t.num else 0) t.pos (t.kids.map foldT) ty0 0 0
def blP (pos : Int) : Nd := .mk 10 [] 0 pos [] ty0 0 0
theorem fold_cases {t : Nd} (hp : permF t = true) :
    (∃ c, valO t = some c ∧ (replT c t.pos).2 = true ∧ foldT t = (replT c t.pos).1) ∨
    (t.kind = 18 ∧ t.kids.length = 3 ∧ valO (kidAt t 0) ≠ none ∧ (foldT t = foldT (kidAt t 1) ∨ ((kidAt t 2).kind = 9 ∧ foldT t = blP t.pos) ∨ ((kidAt t 2).kind ≠ 9 ∧ foldT t = foldT (kidAt t 2)))) ∨
    ((∀ c, valO t = some c → (replT c t.pos).2 = false) ∧ (t.kind = 18 → valO (kidAt t 0) = none) ∧ foldT t = rebT t) := by
  cases h1 : (valC t).2 && (replT (valC t).1 t.pos).2 with
  | true =>
    rw [Bool.and_eq_true] at h1
    exact .inl ⟨(valC t).1, valO_iff.2 ⟨h1.1, rfl⟩, h1.2, by rw [foldT_eq, foldF, h1.1, h1.2]; rfl⟩
  | false =>
    have hn : ∀ c, valO t = some c → (replT c t.pos).2 = false := fun c hc => by
      obtain ⟨e1, e2⟩ := valO_iff.1 hc
      rw [← e2]; rw [e1] at h1; exact h1
    cases h2 : decide (t.kind = 18) && (valC (kidAt t 0)).2 with
    | true =>
      have h2' := h2
      rw [Bool.and_eq_true, decide_eq_true_eq] at h2'
      have hl := perm_18 h2'.1 hp
      refine .inr (.inl ⟨h2'.1, hl, by rw [valO, h2'.2]; exact Option.some_ne_none _, ?_⟩)
      rw [foldT_eq t, foldF, h1, h2]
      simp only [cond_true, cond_false]
      rw [getD_fold (show 1 < t.kids.length by omega), getD_fold (show 2 < t.kids.length by omega)]
      cases decide ((valC (kidAt t 0)).1.2 = 1) with
      | true => exact .inl rfl
      | false =>
        simp only [cond_false]
        by_cases h9 : (kidAt t 2).kind = 9
        · rw [decide_eq_true h9]; exact .inr (.inl ⟨h9, rfl⟩)
        · rw [decide_eq_false h9]; exact .inr (.inr ⟨h9, rfl⟩)
    | false =>
      refine .inr (.inr ⟨hn, fun h => ?_, by rw [foldT_eq, foldF, h1, h2]; rfl⟩)
      rw [decide_eq_true h, Bool.true_and] at h2
      rw [valO, h2]; rfl
theorem perm_kidAt {t : Nd} (hp : permF t = true) {i : Nat} (h : i < t.kids.length) : permF (kidAt t i) = true := by
  rw [kidAt_eq h]; exact perm_kid hp (List.getElem_mem h)
end Go.Rk
namespace Go.Rk
open Go Go.RowKit
set_option linter.unusedVariables false
def numS (t : Nd) : Int := bif countsB t then t.num else 0
def stripT (t : Nd) : Nd := para (fun t l => .mk t.kind t.text (numS t) 0 l ty0 0 0) t
theorem stripT_eq (t : Nd) : stripT t = .mk t.kind t.text (numS t) 0 (t.kids.map stripT) ty0 0 0 := para_eq _ t
def plainT (t : Nd) : Nd := para (fun t l => .mk t.kind t.text (numS t) t.pos l ty0 0 0) t
theorem plainT_eq (t : Nd) : plainT t = .mk t.kind t.text (numS t) t.pos (t.kids.map plainT) ty0 0 0 := para_eq _ t
theorem strip_len (t : Nd) : (stripT t).kids.length = t.kids.length := by rw [stripT_eq, Nd.kids, List.length_map]
theorem plain_len (t : Nd) : (plainT t).kids.length = t.kids.length := by rw [plainT_eq, Nd.kids, List.length_map]
theorem strip_cells (t : Nd) (v : Value) : ndCells (stripT t) v = [.int .i64 t.kind, Str t.text, .int .i64 (numS t), .int .i64 0, v, .int .i64 0, Str [], .int .i64 0, .int .i64 0] := by rw [stripT_eq]; rfl
theorem plain_cells (t : Nd) (v : Value) : ndCells (plainT t) v = [.int .i64 t.kind, Str t.text, .int .i64 (numS t), .int .i64 t.pos, v, .int .i64 0, Str [], .int .i64 0, .int .i64 0] := by rw [plainT_eq]; rfl
theorem strip_kids (t : Nd) : (stripT t).kids = t.kids.map stripT := by rw [stripT_eq]; rfl
theorem plain_kids (t : Nd) : (plainT t).kids = t.kids.map plainT := by rw [plainT_eq]; rfl
theorem retNd_kd {t : Nd} {base : Nat} {v : Value} {w : World} (h : Kd w (fun b => base ≤ b) t.kids v) : RetNd t base (ndV t v) w := by
  obtain ⟨p, c, rfl, h2⟩ := h
  exact ⟨p, c, rfl, p, c, rfl, h2⟩
end Go.Rk
namespace Go.Rk
open Go Go.RowKit
set_option linter.unusedVariables false
theorem sk_nd0 : stripT nd0 = nd0 := by rw [stripT_eq]; rfl
theorem sk_kind (t : Nd) : (stripT t).kind = t.kind := by rw [stripT_eq]; rfl
theorem sk_text (t : Nd) : (stripT t).text = t.text := by rw [stripT_eq]; rfl
theorem sk_num (t : Nd) : (stripT t).num = numS t := by rw [stripT_eq]; rfl
theorem sk_kidAt (t : Nd) (i : Nat) : kidAt (stripT t) i = stripT (kidAt t i) := by
  rw [kidAt, strip_kids, ← sk_nd0, List.getD_eq_getElem?_getD, List.getElem?_map, kidAt, List.getD_eq_getElem?_getD, sk_nd0]
  cases t.kids[i]? with
  | none => exact sk_nd0.symm
  | some k => rfl
theorem sk_len (t : Nd) (n : Int) : lenK (stripT t) n = lenK t n := by rw [lenK, lenK, strip_len]
theorem sk_every (t : Nd) (q : Int → Bool) : everyB (stripT t) q = everyB t q := by
  rw [everyB, strip_kids, List.all_map, everyB]
  congr 1; funext k; show q (stripT k).kind = q k.kind; rw [sk_kind]
theorem sk_kids (t : Nd) (qs : List (Int → Bool)) : kidsB (stripT t) qs = kidsB t qs := by
  rw [kidsB, strip_len, kidsB]
  congr 2; funext i; rw [sk_kidAt, sk_kind]
theorem sk_comm (t : Nd) : commB (stripT t) = commB t := by unfold commB; rw [sk_kind, strip_len, sk_kidAt, sk_kidAt, sk_kind, sk_kind]
theorem sk_fileVar (t : Nd) : fileVarB (stripT t) = fileVarB t := by rw [fileVarB, fileVarB, sk_kind, sk_len, sk_kidAt, sk_kind]
theorem sk_files (t : Nd) : (stripT t).kids.any fileVarB = t.kids.any fileVarB := by
  rw [strip_kids, List.any_map]; congr 1; funext k; exact sk_fileVar k
theorem sk_form (t : Nd) : formB (stripT t) = formB t := by
  unfold formB
  simp only [sk_kind, sk_files, sk_every, sk_kids, sk_len, sk_comm, sk_kidAt, strip_len]
  cases h : countsB t
  · have h' := h
    simp only [countsB, Bool.or_eq_false_iff] at h'
    simp only [h'.1, h'.2, cond_false]
  · have : (stripT t).num = t.num := by rw [sk_num, numS, h]; rfl
    rw [this]
theorem sk_textB (t : Nd) : textB' (stripT t) = textB' t := by unfold textB'; rw [sk_kind, sk_text]
theorem sk_perm : ∀ t, permF (stripT t) = permF t := by
  refine Nd.ind fun t ih => ?_
  rw [permF_eq, permF_eq t, locB, locB, sk_form, sk_textB, strip_kids, List.all_map]
  congr 1
  rw [Bool.eq_iff_iff, List.all_eq_true, List.all_eq_true]
  constructor <;> intro h k hk <;> have := h k hk <;> simpa [ih k hk] using this
theorem strip_plain : ∀ t, stripT (plainT t) = stripT t := by
  refine Nd.ind fun t ih => ?_
  have hc : countsB (plainT t) = countsB t := by rw [countsB, countsB, plainT_eq]; rfl
  have hn : numS (plainT t) = numS t := by
    rw [numS, hc, numS]
    cases h : countsB t
    · rfl
    · show (plainT t).num = t.num
      rw [plainT_eq]; show numS t = t.num; rw [numS, h]; rfl
  rw [stripT_eq (plainT t), hn, plain_kids, List.map_map, stripT_eq t, plainT_eq t]
  show Nd.mk t.kind t.text (numS t) 0 (t.kids.map (stripT ∘ plainT)) ty0 0 0 = _
  exact congrArg (fun l => Nd.mk t.kind t.text (numS t) 0 l ty0 0 0) (List.map_congr_left fun k hk => ih k hk)
theorem plain_perm (t : Nd) : permF (plainT t) = permF t := by rw [← sk_perm, strip_plain, sk_perm]
theorem plain_count : ∀ t, count (plainT t) = count t := by
  refine Nd.ind fun t ih => ?_
  rw [count_eq, plain_kids, List.map_map, count_eq t]
  congr 2
  exact List.map_congr_left fun k hk => ih k hk
theorem plain_idem : ∀ t, plainT (plainT t) = plainT t := by
  refine Nd.ind fun t ih => ?_
  have hc : countsB (plainT t) = countsB t := by rw [countsB, countsB, plainT_eq]; rfl
  have hn : numS (plainT t) = numS t := by
    rw [numS, hc, numS]
    cases h : countsB t
    · rfl
    · show (plainT t).num = t.num
      rw [plainT_eq]; show numS t = t.num; rw [numS, h]; rfl
  rw [plainT_eq (plainT t), hn, plain_kids, List.map_map, plainT_eq t]
  show Nd.mk t.kind t.text (numS t) t.pos (t.kids.map (plainT ∘ plainT)) ty0 0 0 = _
  exact congrArg (fun l => Nd.mk t.kind t.text (numS t) t.pos l ty0 0 0) (List.map_congr_left fun k hk => ih k hk)
theorem plain_fix {t : Nd} (h : plainT t = t) : numS t = t.num ∧ t.ty = ty0 ∧ t.ref = 0 ∧ t.up = 0 ∧ ∀ k ∈ t.kids, plainT k = k := by
  rw [plainT_eq] at h
  have hk : t.kids.map plainT = t.kids := congrArg Nd.kids h
  refine ⟨congrArg Nd.num h, (congrArg Nd.ty h).symm, (congrArg Nd.ref h).symm, (congrArg Nd.up h).symm, fun k hm => ?_⟩
  obtain ⟨i, hi, rfl⟩ := List.getElem_of_mem hm
  have : (t.kids.map plainT)[i]? = t.kids[i]? := by rw [hk]
  simpa [List.getElem?_eq_getElem hi] using this
set_option maxRecDepth 100000 in
set_option maxHeartbeats 4000000 in
/-- A node without children comes back without a block of children. -/
theorem rstrip_leaf (t : Nd) (w : World) (h0 : t.kids = []) : Ret PP fn_r03_Strip #[ndV t (.slice none 0 0)] w fun r w' => r = ndV (stripT t) (.slice none 0 0) ∧ G w w' := by
  obtain ⟨k, x, n, a, ks, y, r, u⟩ := t
  obtain rfl : ks = [] := h0
  obtain ⟨t, ht⟩ : ∃ t, t = Nd.mk k x n a [] y r u := ⟨_, rfl⟩
  have h0 : (0 : Nat) = t.kids.length := by rw [ht]; rfl
  rw [← ht]
  have g := G.refl w
  refine ret_of_sc (m := 34) func_r03_Strip rfl rfl [(0, True, _)] (sub_cons rfl (sub_nil _)) ?_
  refine sc_seq fun K1 hK1 => ?_
  refine sc_text [1, 1] ?_
  refine sr_box rfl (ev_t rfl) rfl ?_
  intro b1 w1 N1
  have l1 := N1.ge g
  have g := g.trans (N1.g)
  have B1 := N1.blk
  refine sr_alloc rfl ze_api_Node rfl ?_
  intro b2 w2 N2
  have x2_1 := N2.ne B1
  have l2 := N2.ge g
  have g := g.trans (N2.g)
  replace B1 := B1.grow (N2.g)
  have B2 := N2.blk
  refine sr_sub [(1, _, _), (2, _, _)] (sub_cons rfl (sub_cons rfl (sub_nil _))) ?_
  refine sr_nil (hK1 _ _ ?_)
  refine sc_seq fun K2 hK2 => ?_
  refine sc_text [3, 0, 3, 0, 3, 1, 2] ?_
  refine sr_pu rfl (fun _ => rd_field fo_api_Node_0 (ev_t rfl)) ?_
  refine sr_rd rfl (rd_load one_int (ev_t rfl) (fun _ => B1.at_ rfl)) ?_
  refine sr_pu rfl (fun _ => rd_field fo_api_Node_1 (ev_t rfl)) ?_
  refine sr_rd rfl (rd_load one_string (ev_t rfl) (fun _ => B1.at_ rfl)) ?_
  refine sr_pu rfl (fun _ => rd_build [_, _, _, _, _, _, _, _, _] ze_api_Node rfl pl_api_Node (parts_cons (ev_t rfl) (parts_cons (ev_t rfl) (parts_nil))) rfl) ?_
  refine sr_alloc rfl ze_api_Node rfl ?_
  intro b3 w3 N3
  have x3_1 := N3.ne B1
  have x3_2 := N3.ne B2
  have l3 := N3.ge g
  have g := g.trans (N3.g)
  replace B1 := B1.grow (N3.g)
  replace B2 := B2.grow (N3.g)
  have B3 := N3.blk
  refine sr_store_all rfl sz_api_Node (ev_t rfl) (ev_t rfl) rfl rfl B3 rfl rfl ?_
  intro wS1 hgS1 hzS1
  clear B3
  intro B3
  replace B1 := B1.keep hgS1 (by intro h; injection h with h; first | exact x3_1 h.symm | exact x1_3 h | omega)
  replace B2 := B2.keep hgS1 (by intro h; injection h with h; first | exact x3_2 h.symm | exact x2_3 h | omega)
  have g := g_only g hgS1 (by intro k hk; injection hk with hk; omega)
  refine sr_sub [(1, _, _), (2, _, _), (3, _, _)] (sub_cons rfl (sub_cons rfl (sub_cons rfl (sub_nil _)))) ?_
  refine sr_nil (hK2 _ _ ?_)
  refine sc_seq fun K3 hK3 => ?_
  refine sc_seq fun K4 hK4 => ?_
  refine sc_text [0, 1] ?_
  refine sr_rd rfl (rd_loads agg_api_Node (ev_t rfl) rfl (fun _ => B1.row)) ?_
  refine sr_pure rfl (rc_call go_r03_counts ev_f (args_cons (ev_t rfl) (args_nil)) rfl) ((by have := rcounts_ok t none 0; rw [← h0] at this; exact this _)) (fun w11 g11 => ?_)
  have g := g.trans (g11)
  replace B1 := B1.grow (g11)
  replace B2 := B2.grow (g11)
  replace B3 := B3.grow (g11)
  refine sr_sub [(1, _, _), (2, _, _), (3, _, _), (11, _, _)] (sub_cons rfl (sub_cons rfl (sub_cons rfl (sub_cons rfl (sub_nil _))))) ?_
  refine sr_nil (hK4 _ _ ?_)
  refine sc_cond (ev_t rfl) (fun h1 => ?_) (fun h1 => ?_)
  · replace h1 : countsB t = true := h1
    refine sc_text [3, 0, 3, 2] ?_
    refine sr_pu rfl (fun _ => rd_field fo_api_Node_2 (ev_t rfl)) ?_
    refine sr_rd rfl (rd_load one_int (ev_t rfl) (fun _ => B1.at_ rfl)) ?_
    refine sr_pu rfl (fun _ => rd_field fo_api_Node_2 (ev_t rfl)) ?_
    refine sr_store_one rfl sz_int (ev_t rfl) (ev_t rfl) rfl B3 rfl rfl ?_
    intro wS2 hgS2 hzS2
    clear B3
    intro B3
    replace B1 := B1.keep hgS2 (by intro h; injection h with h; first | exact x3_1 h.symm | exact x1_3 h | omega)
    replace B2 := B2.keep hgS2 (by intro h; injection h with h; first | exact x3_2 h.symm | exact x2_3 h | omega)
    have g := g_only g hgS2 (by intro k hk; injection hk with hk; omega)
    refine sr_sub [(1, _, _), (2, _, _), (3, _, _)] (sub_cons rfl (sub_cons rfl (sub_cons rfl (sub_nil _)))) ?_
    refine sr_nil (hK3 _ _ ?_)
    refine sc_seq fun K5 hK5 => ?_
    refine sc_seq fun K6 hK6 => ?_
    refine sc_text [3] ?_
    replace B3 : Blk wS2 b3 ty_api_Node (ndCells (stripT t) (.slice none 0 0)) := by
      have h := B3
      rw [strip_cells, numS, h1]; exact h
    refine sr_pu rfl (fun _ => rd_assign ev_c) ?_
    refine sr_nil (hK6 _ _ ?_)
    refine sc_block ?_
    refine sc_loop3 (fun (i : Nat) u1 => (i = 0 ∧ Blk u1 b3 ty_api_Node (ndCells (stripT t) (.slice none 0 0))) ∧ G w u1) _ [(1, True, _), (2, True, _), (3, True, _)] (fun (i : Nat) => [(4, True, .int .i64 i)]) (fun (i : Nat) => 0) (0) ⟨⟨rfl, B3⟩, g⟩ (andE_mk (blkE B1) (andE_mk (blkE B2) (nilE_mk _))) (sub_cons rfl (sub_cons rfl (sub_cons rfl (sub_cons rfl (sub_nil _))))) ?_
    clear B1 B2 B3
    rintro i u1 ⟨hI1, gl1⟩ ⟨B1, B2, _⟩
    replace B1 : Blk _ _ _ _ := B1
    replace B2 : Blk _ _ _ _ := B2
    have g := gl1
    obtain ⟨hi, B3⟩ := hI1
    subst hi
    refine sc_seq fun K7 hK7 => ?_
    refine sc_seq fun K8 hK8 => ?_
    refine sc_text [3, 3, 0, 3, 3] ?_
    refine sr_pu rfl (fun _ => rd_move (ev_t rfl)) ?_
    refine sr_pu rfl (fun _ => rd_field fo_api_Node_4 (ev_t rfl)) ?_
    refine sr_rd rfl (rd_load one_sl_api_Node (ev_t rfl) (fun _ => B1.at_ rfl)) ?_
    refine sr_pu rfl (fun _ => rd_len el_sl_api_Node (ev_t rfl)) ?_
    refine sr_pu rfl (fun _ => rd_lt (ev_t rfl) (ev_t rfl)) ?_
    refine sr_sub [(1, _, _), (2, _, _), (3, _, _), (4, _, _), (19, _, _)] (sub_cons rfl (sub_cons rfl (sub_cons rfl (sub_cons rfl (sub_cons rfl (sub_nil _)))))) ?_
    refine sr_nil (hK8 _ _ ?_)
    refine sc_cond (ev_t rfl) (fun h2 => ?_) (fun h2 => ?_)
    · exfalso; simp only [decide_eq_true_eq] at h2; omega
      done
    (try simp only [bsimp] at h2)
    refine sc_exit rfl (hK5 _ _ ?_)
    refine sc_sub [(2, _, _), (3, _, _)] (sub_cons rfl (sub_cons rfl (sub_nil _))) ?_
    refine sc_seq fun K9 hK9 => ?_
    refine sc_text [0, 2] ?_
    refine sr_rd rfl (rd_loads agg_api_Node (ev_t rfl) rfl (fun _ => B3.row)) ?_
    refine sr_store_all rfl sz_api_Node (ev_t rfl) (ev_t rfl) rfl rfl B2 rfl rfl ?_
    intro wS3 hgS3 hzS3
    clear B2
    intro B2
    replace B1 := B1.keep hgS3 (by intro h; injection h with h; first | exact x2_1 h.symm | exact x1_2 h | omega)
    replace B3 := B3.keep hgS3 (by intro h; injection h with h; first | exact x2_3 h.symm | exact x3_2 h | omega)
    have g := g_only g hgS3 (by intro k hk; injection hk with hk; omega)
    refine sr_nil (hK9 _ _ ?_)
    refine sc_ret (t_retv1 rfl (evr_c rfl agg_api_Node rfl (by first | exact B1.row | exact B2.row | exact B3.row) (evr_nil)) ?_)
    exact ⟨rfl, g⟩
  replace h1 : countsB t = false := h1
  refine sc_skip (hK3 _ _ ?_)
  refine sc_sub [(1, _, _), (2, _, _), (3, _, _)] (sub_cons rfl (sub_cons rfl (sub_cons rfl (sub_nil _)))) ?_
  refine sc_seq fun K5 hK5 => ?_
  refine sc_seq fun K6 hK6 => ?_
  refine sc_text [3] ?_
  replace B3 : Blk w11 b3 ty_api_Node (ndCells (stripT t) (.slice none 0 0)) := by
    have h := B3
    rw [strip_cells, numS, h1]; exact h
  refine sr_pu rfl (fun _ => rd_assign ev_c) ?_
  refine sr_nil (hK6 _ _ ?_)
  refine sc_block ?_
  refine sc_loop3 (fun (i : Nat) u1 => (i = 0 ∧ Blk u1 b3 ty_api_Node (ndCells (stripT t) (.slice none 0 0))) ∧ G w u1) _ [(1, True, _), (2, True, _), (3, True, _)] (fun (i : Nat) => [(4, True, .int .i64 i)]) (fun (i : Nat) => 0) (0) ⟨⟨rfl, B3⟩, g⟩ (andE_mk (blkE B1) (andE_mk (blkE B2) (nilE_mk _))) (sub_cons rfl (sub_cons rfl (sub_cons rfl (sub_cons rfl (sub_nil _))))) ?_
  clear B1 B2 B3
  rintro i u1 ⟨hI1, gl1⟩ ⟨B1, B2, _⟩
  replace B1 : Blk _ _ _ _ := B1
  replace B2 : Blk _ _ _ _ := B2
  have g := gl1
  obtain ⟨hi, B3⟩ := hI1
  subst hi
  refine sc_seq fun K7 hK7 => ?_
  refine sc_seq fun K8 hK8 => ?_
  refine sc_text [3, 3, 0, 3, 3] ?_
  refine sr_pu rfl (fun _ => rd_move (ev_t rfl)) ?_
  refine sr_pu rfl (fun _ => rd_field fo_api_Node_4 (ev_t rfl)) ?_
  refine sr_rd rfl (rd_load one_sl_api_Node (ev_t rfl) (fun _ => B1.at_ rfl)) ?_
  refine sr_pu rfl (fun _ => rd_len el_sl_api_Node (ev_t rfl)) ?_
  refine sr_pu rfl (fun _ => rd_lt (ev_t rfl) (ev_t rfl)) ?_
  refine sr_sub [(1, _, _), (2, _, _), (3, _, _), (4, _, _), (19, _, _)] (sub_cons rfl (sub_cons rfl (sub_cons rfl (sub_cons rfl (sub_cons rfl (sub_nil _)))))) ?_
  refine sr_nil (hK8 _ _ ?_)
  refine sc_cond (ev_t rfl) (fun h2 => ?_) (fun h2 => ?_)
  · exfalso; simp only [decide_eq_true_eq] at h2; omega
    done
  (try simp only [bsimp] at h2)
  refine sc_exit rfl (hK5 _ _ ?_)
  refine sc_sub [(2, _, _), (3, _, _)] (sub_cons rfl (sub_cons rfl (sub_nil _))) ?_
  refine sc_seq fun K9 hK9 => ?_
  refine sc_text [0, 2] ?_
  refine sr_rd rfl (rd_loads agg_api_Node (ev_t rfl) rfl (fun _ => B3.row)) ?_
  refine sr_store_all rfl sz_api_Node (ev_t rfl) (ev_t rfl) rfl rfl B2 rfl rfl ?_
  intro wS2 hgS2 hzS2
  clear B2
  intro B2
  replace B1 := B1.keep hgS2 (by intro h; injection h with h; first | exact x2_1 h.symm | exact x1_2 h | omega)
  replace B3 := B3.keep hgS2 (by intro h; injection h with h; first | exact x2_3 h.symm | exact x3_2 h | omega)
  have g := g_only g hgS2 (by intro k hk; injection hk with hk; omega)
  refine sr_nil (hK9 _ _ ?_)
  refine sc_ret (t_retv1 rfl (evr_c rfl agg_api_Node rfl (by first | exact B1.row | exact B2.row | exact B3.row) (evr_nil)) ?_)
  exact ⟨rfl, g⟩
end Go.Rk
