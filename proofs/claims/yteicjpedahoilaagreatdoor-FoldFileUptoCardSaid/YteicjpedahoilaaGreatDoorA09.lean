/- Merged texts of one road: SynH, Max, SynI. Conditions: each text's own. -/
import Derived.Test.YteicjpedahoilaaGreatDoorA08
import Derived.Test.YteicjpedahoilaaGreatDoorA01
set_option linter.unusedSimpArgs false
set_option linter.unusedVariables false
namespace Go.Rk
open Go Go.RowKit
theorem count_kidAt {t : Nd} {i : Nat} (h : i < t.kids.length) : count (kidAt t i) < count t := by
  rw [kidAt_eq h]; have := count_mem (List.getElem_mem h); omega
theorem kidAt_out {t : Nd} {i : Nat} (h : ¬ i < t.kids.length) : kidAt t i = nd0 := by
  simp only [kidAt, List.getD_eq_getElem?_getD]; rw [List.getElem?_eq_none (by omega)]; rfl
theorem below_kid {t : Nd} (ih : Below t) {i : Nat} (h : i < t.kids.length) : Below (kidAt t i) := fun k hk => ih k (Nat.lt_trans hk (count_kidAt h))
theorem caseB_not (t : Nd) : (!caseB t) = ((((!decide (t.kind = 23) || !plainB t) || !lenK t 2) || !commF (kidAt t 0)) || !blockB (kidAt t 1)) := by
  rw [caseB]
  cases decide (t.kind = 23) <;> cases plainB t <;> cases lenK t 2 <;> cases commF (kidAt t 0) <;> cases blockB (kidAt t 1) <;> rfl
theorem isselect_ok (t : Nd) (p : Option Addr) (c : Nat) (D : Nat → Prop) (w : World) (hk : Kd w D t.kids (.slice p t.kids.length c)) (ih : Below t) (hln : t.kids.length ≤ 1000000) : Ret PP fn_r03_isSelect #[ndV t (.slice p t.kids.length c)] w fun r w' => r = .bool (refSelect t) ∧ G w w' := by
  have g := G.refl w
  refine ret_of_sc (m := 50) func_r03_isSelect rfl rfl [(0, True, _)] (sub_cons rfl (sub_nil _)) ?_
  refine sc_seq fun K1 hK1 => ?_
  refine sc_text [1, 3] ?_
  refine sr_box rfl (ev_t rfl) rfl ?_
  intro b1 w1 N1
  have l1 := N1.ge g
  have g := g.trans (N1.g)
  have B1 := N1.blk
  refine sr_pu rfl (fun _ => rd_assign ev_c) ?_
  refine sr_sub [(1, _, _), (2, _, _)] (sub_cons rfl (sub_cons rfl (sub_nil _))) ?_
  refine sr_nil (hK1 _ _ ?_)
  refine sc_seq fun K2 hK2 => ?_
  refine sc_seq fun K3 hK3 => ?_
  refine sc_text [3] ?_
  refine sr_pu rfl (fun _ => rd_assign ev_c) ?_
  refine sr_nil (hK3 _ _ ?_)
  refine sc_block ?_
  refine sc_loop2 (fun (i : Nat) u1 => (i ≤ t.kids.length ∧ ∀ j, (h : j < t.kids.length) → j < i → caseB t.kids[j] = true) ∧ G w1 u1) [(1, True, _)] (fun (i : Nat) => [(3, True, .int .i64 i)]) (fun (i : Nat) => t.kids.length - i) (0) ⟨⟨Nat.zero_le _, fun j _ hj => absurd hj (Nat.not_lt_zero j)⟩, G.refl _⟩ (sub_cons rfl (sub_cons rfl (sub_nil _))) ?_
  rintro i u1 ⟨hI1, gl1⟩
  have g := g.trans gl1
  replace B1 := B1.grow (gl1)
  refine sc_seq fun K4 hK4 => ?_
  refine sc_seq fun K5 hK5 => ?_
  refine sc_text [3, 3, 0, 3, 3] ?_
  refine sr_pu rfl (fun _ => rd_move (ev_t rfl)) ?_
  refine sr_pu rfl (fun _ => rd_field fo_api_Node_4 (ev_t rfl)) ?_
  refine sr_rd rfl (rd_load one_sl_api_Node (ev_t rfl) (fun _ => B1.at_ rfl)) ?_
  refine sr_pu rfl (fun _ => rd_len el_sl_api_Node (ev_t rfl)) ?_
  refine sr_pu rfl (fun _ => rd_lt (ev_t rfl) (ev_t rfl)) ?_
  refine sr_sub [(1, _, _), (3, _, _), (9, _, _)] (sub_cons rfl (sub_cons rfl (sub_cons rfl (sub_nil _)))) ?_
  refine sr_nil (hK5 _ _ ?_)
  refine sc_cond (ev_t rfl) (fun h1 => ?_) (fun h1 => ?_)
  · replace h1 : i < t.kids.length := by simp only [decide_eq_true_eq] at h1; omega
    obtain ⟨hpe, p2, c2, hcell, hkid⟩ := kd_opt hk h1
    obtain ⟨p3, c3, h0x⟩ := kd_ih hkid (below_kid ih h1) 0
    obtain ⟨p4, c4, h1x⟩ := kd_ih hkid (below_kid ih h1) 1
    refine sc_skip (hK4 _ _ ?_)
    refine sc_sub [(1, _, _), (3, _, _)] (sub_cons rfl (sub_cons rfl (sub_nil _))) ?_
    refine sc_seq fun K6 hK6 => ?_
    refine sc_block ?_
    refine sc_seq fun K7 hK7 => ?_
    refine sc_text [3, 0, 3, 3, 0, 1, 2] ?_
    refine sr_pu rfl (fun _ => rd_field fo_api_Node_4 (ev_t rfl)) ?_
    refine sr_rd rfl (rd_load one_sl_api_Node (ev_t rfl) (fun _ => B1.at_ rfl)) ?_
    refine sr_pu rfl (fun _ => rd_move (ev_t rfl)) ?_
    refine sr_pu rfl (fun _ => rd_idxq el_sl_api_Node (ev_t rfl) (ev_t rfl) (fun _ => by omega) (fun _ => hpe)) ?_
    refine sr_rd rfl (rd_loads agg_api_Node (ev_t rfl) rfl (fun _ => hcell.grow g)) ?_
    refine sr_alloc rfl ze_api_Node rfl ?_
    intro b4 w4 N4
    have x4_1 := N4.ne B1
    have l4 := N4.ge g
    try have l4_gl1 := N4.ge gl1
    have g := g.trans (N4.g)
    try have gl1 := gl1.trans (N4.g)
    replace B1 := B1.grow (N4.g)
    have B4 := N4.blk
    refine sr_store_all rfl sz_api_Node (ev_t rfl) (ev_t rfl) rfl rfl B4 rfl rfl ?_
    intro wS1 hgS1 hzS1
    clear B4
    intro B4
    replace B1 := B1.keep hgS1 (by intro h; injection h with h; first | exact x4_1 h.symm | exact x1_4 h | omega)
    have g := g_only g hgS1 (by intro k hk; injection hk with hk; omega)
    first | replace gl1 := g_only gl1 hgS1 (by intro k hk; injection hk with hk; omega) | clear gl1 | skip
    refine sr_sub [(1, _, _), (3, _, _), (4, _, _)] (sub_cons rfl (sub_cons rfl (sub_cons rfl (sub_nil _)))) ?_
    refine sr_nil (hK7 _ _ ?_)
    refine sc_seq fun K8 hK8 => ?_
    refine sc_text [3, 0, 3, 3, 3, 0, 3, 3, 3, 3, 0, 3, 3, 3, 3, 3, 0, 3, 0, 1, 3, 3, 3, 3, 0, 3, 0, 1, 3, 3] ?_
    refine sr_pu rfl (fun _ => rd_field fo_api_Node_0 (ev_t rfl)) ?_
    refine sr_rd rfl (rd_load one_int (ev_t rfl) (fun _ => B4.at_ rfl)) ?_
    refine sr_pu rfl (fun _ => rd_ne (ev_t rfl) ev_c) ?_
    refine sr_pu rfl (fun _ => rd_move (ev_t rfl)) ?_
    refine sr_pug rfl rfl rfl (fun _ => rd_field fo_api_Node_1 (ev_t rfl)) ?_
    refine sr_rdg rfl rfl rfl (rd_load one_string (ev_u rfl id) (fun _ => B4.at_ rfl)) ?_
    refine sr_pug rfl rfl rfl (fun _ => rd_sne (ev_u rfl id) ev_c) ?_
    refine sr_pu rfl (fun _ => rd_pick_or (ev_t rfl) (ev_u rfl id)) ?_
    refine sr_pu rfl (fun _ => rd_move (ev_t rfl)) ?_
    refine sr_pug rfl rfl rfl (fun _ => rd_field fo_api_Node_4 (ev_t rfl)) ?_
    refine sr_rdg rfl rfl rfl (rd_load one_sl_api_Node (ev_u rfl id) (fun _ => B4.at_ rfl)) ?_
    refine sr_pug rfl rfl rfl (fun _ => rd_len el_sl_api_Node (ev_u rfl id)) ?_
    refine sr_pug rfl rfl rfl (fun _ => rd_ne (ev_u rfl id) ev_c) ?_
    refine sr_pu rfl (fun _ => rd_pick_or (ev_t rfl) (ev_u rfl id)) ?_
    refine sr_pu rfl (fun _ => rd_move (ev_t rfl)) ?_
    refine sr_pug rfl rfl rfl (fun _ => rd_field fo_api_Node_4 (ev_t rfl)) ?_
    refine sr_rdg rfl rfl rfl (rd_load one_sl_api_Node (ev_u rfl id) (fun _ => B4.at_ rfl)) ?_
    refine sr_pug rfl rfl rfl (fun _ => rd_idxq el_sl_api_Node (ev_u rfl id) ev_c (fun hc => by (have hz := hc.2; first | (unfold lenK at hz; simp at hz; omega) | (simp at hz; omega))) (fun hc => (h0x (by (have hz := hc.2; first | (unfold lenK at hz; simp at hz; omega) | (simp at hz; omega)))).1)) ?_
    refine sr_rdg rfl rfl rfl (rd_loads agg_api_Node (ev_u rfl id) rfl (fun hc => (h0x (by (have hz := hc.2; first | (unfold lenK at hz; simp at hz; omega) | (simp at hz; omega)))).2.1.grow g)) ?_
    refine sr_pureg rfl rfl rfl (fun _ => (rc_call go_r03_isComm ev_f (args_cons (ev_u rfl id) (args_nil)) rfl)) (fun hc => (h0x (by (have hz := hc.2; first | (unfold lenK at hz; simp at hz; omega) | (simp at hz; omega)))).2.2.2.cm _ _ D _ ((h0x (by (have hz := hc.2; first | (unfold lenK at hz; simp at hz; omega) | (simp at hz; omega)))).2.2.1.grow g)) (fun w36 g36 => ?_)
    have g := g.trans (g36)
    try have gl1 := gl1.trans (g36)
    replace B1 := B1.grow (g36)
    replace B4 := B4.grow (g36)
    refine sr_pug rfl rfl rfl (fun _ => rd_not (ev_u rfl id)) ?_
    refine sr_pu rfl (fun _ => rd_pick_or (ev_t rfl) (ev_u rfl id)) ?_
    refine sr_pu rfl (fun _ => rd_move (ev_t rfl)) ?_
    refine sr_pug rfl rfl rfl (fun _ => rd_field fo_api_Node_4 (ev_t rfl)) ?_
    refine sr_rdg rfl rfl rfl (rd_load one_sl_api_Node (ev_u rfl id) (fun _ => B4.at_ rfl)) ?_
    refine sr_pug rfl rfl rfl (fun _ => rd_idxq el_sl_api_Node (ev_u rfl id) ev_c (fun hc => by (have hz := hc.2; first | (unfold lenK at hz; simp at hz; omega) | (simp at hz; omega))) (fun hc => (h1x (by (have hz := hc.2; first | (unfold lenK at hz; simp at hz; omega) | (simp at hz; omega)))).1)) ?_
    refine sr_rdg rfl rfl rfl (rd_loads agg_api_Node (ev_u rfl id) rfl (fun hc => (h1x (by (have hz := hc.2; first | (unfold lenK at hz; simp at hz; omega) | (simp at hz; omega)))).2.1.grow g)) ?_
    refine sr_pureg rfl rfl rfl (fun _ => (rc_call go_r03_isBlock ev_f (args_cons (ev_u rfl id) (args_nil)) rfl)) (fun hc => (h1x (by (have hz := hc.2; first | (unfold lenK at hz; simp at hz; omega) | (simp at hz; omega)))).2.2.2.bl _ _ D _ ((h1x (by (have hz := hc.2; first | (unfold lenK at hz; simp at hz; omega) | (simp at hz; omega)))).2.2.1.grow g)) (fun w44 g44 => ?_)
    have g := g.trans (g44)
    try have gl1 := gl1.trans (g44)
    replace B1 := B1.grow (g44)
    replace B4 := B4.grow (g44)
    refine sr_pug rfl rfl rfl (fun _ => rd_not (ev_u rfl id)) ?_
    refine sr_pu rfl (fun _ => rd_pick_or (ev_t rfl) (ev_u rfl id)) ?_
    refine sr_sub [(1, _, _), (3, _, _), (46, _, _)] (sub_cons rfl (sub_cons rfl (sub_cons rfl (sub_nil _)))) ?_
    refine sr_nil (hK8 _ _ ?_)
    refine sc_cond (ev_t rfl) (fun h2 => ?_) (fun h2 => ?_)
    · replace h2 : caseB (kidAt t i) = false := by simpa using (caseB_not _).trans h2
      refine sc_seq fun K9 hK9 => ?_
      refine sc_text [3] ?_
      refine sr_pu rfl (fun _ => rd_assign ev_c) ?_
      refine sr_sub [(1, _, _), (2, _, _), (3, _, _)] (sub_cons rfl (sub_cons rfl (sub_cons rfl (sub_nil _)))) ?_
      refine sr_nil (hK9 _ _ ?_)
      refine sc_ret (t_ret1 rfl rfl ?_)
      refine ⟨congrArg Value.bool ?_, g⟩
      rw [eq_comm, refSelect, show t.kids.all caseB = false from List.all_eq_false.2 ⟨_, List.getElem_mem h1, by rw [← kidAt_eq h1, h2]; simp⟩]; rfl
    replace h2 : caseB (kidAt t i) = true := by simpa using (caseB_not _).trans h2
    refine sc_skip (hK6 _ _ ?_)
    refine sc_sub [(1, _, _), (3, _, _)] (sub_cons rfl (sub_cons rfl (sub_nil _))) ?_
    refine sc_text [3, 3, 3] ?_
    refine sr_pu rfl (fun _ => rd_move (ev_t rfl)) ?_
    refine sr_pu rfl (fun _ => rd_add (ev_t rfl) ev_c (fun _ => by omega)) ?_
    refine sr_pu rfl (fun _ => rd_assign (ev_t rfl)) ?_
    refine sr_sub [(3, _, _), (1, _, _)] (sub_cons rfl (sub_cons rfl (sub_nil _))) ?_
    refine sr_nil (fun a ha => ?_)
    refine ⟨i + 1, ha, ⟨⟨h1, fun j h hj => ?_⟩, gl1⟩, by omega⟩
    by_cases e : j = i
    · subst e; rw [← kidAt_eq h1]; exact h2
    · exact hI1.2 j h (by omega)
  (try simp only [bsimp] at h1)
  refine sc_exit rfl (hK2 _ _ ?_)
  refine sc_sub [(1, _, _)] (sub_cons rfl (sub_nil _)) ?_
  refine sc_seq fun K10 hK10 => ?_
  refine sc_text [3, 0, 3, 3] ?_
  refine sr_pu rfl (fun _ => rd_field fo_api_Node_1 (ev_t rfl)) ?_
  refine sr_rd rfl (rd_load one_string (ev_t rfl) (fun _ => B1.at_ rfl)) ?_
  refine sr_pu rfl (fun _ => rd_seq (ev_t rfl) ev_c) ?_
  refine sr_pu rfl (fun _ => rd_assign (ev_t rfl)) ?_
  refine sr_nil (hK10 _ _ ?_)
  refine sc_sub [(1, _, _), (2, _, _), (47, _, _), (48, _, _), (49, _, _)] (sub_cons rfl (sub_cons rfl (sub_cons rfl (sub_cons rfl (sub_cons rfl (sub_nil _)))))) ?_
  refine sc_ret (t_ret1 rfl rfl ?_)
  refine ⟨congrArg Value.bool ?_, g⟩
  rw [eq_comm, refSelect, show t.kids.all caseB = true from List.all_eq_true.2 fun x hx => by
    obtain ⟨j, hj, rfl⟩ := List.getElem_of_mem hx
    exact hI1.2 j hj (by simp only [decide_eq_false_iff_not] at h1; omega)]; rfl
theorem isstmt_ok (t : Nd) (p : Option Addr) (c : Nat) (D : Nat → Prop) (w : World) (hk : Kd w D t.kids (.slice p t.kids.length c)) (ih : Below t) (hln : t.kids.length ≤ 1000000) : Ret PP fn_r03_isStmt #[ndV t (.slice p t.kids.length c)] w fun r w' => r = .bool (stmtB t) ∧ G w w' := by
  rw [← refStmt_eq]
  have g := G.refl w
  obtain ⟨p0, c0, h0x⟩ := kd_ih hk ih 0
  obtain ⟨p1, c1, h1x⟩ := kd_ih hk ih 1
  have hr : ∀ k ∈ t.kids, ROk k := fun k hk => ih k (count_mem hk)
  refine ret_of_sc (m := 149) func_r03_isStmt rfl rfl [(0, True, _)] (sub_cons rfl (sub_nil _)) ?_
  refine sc_seq fun K1 hK1 => ?_
  refine sc_text [1, 3] ?_
  refine sr_box rfl (ev_t rfl) rfl ?_
  intro b1 w1 N1
  have l1 := N1.ge g
  have g := g.trans (N1.g)
  have B1 := N1.blk
  refine sr_pu rfl (fun _ => rd_assign ev_c) ?_
  refine sr_sub [(1, _, _), (2, _, _)] (sub_cons rfl (sub_cons rfl (sub_nil _))) ?_
  refine sr_nil (hK1 _ _ ?_)
  refine sc_seq fun K2 hK2 => ?_
  refine sc_text [3, 0, 3, 3] ?_
  refine sr_pu rfl (fun _ => rd_field fo_api_Node_4 (ev_t rfl)) ?_
  refine sr_rd rfl (rd_load one_sl_api_Node (ev_t rfl) (fun _ => B1.at_ rfl)) ?_
  refine sr_pu rfl (fun _ => rd_len el_sl_api_Node (ev_t rfl)) ?_
  refine sr_pu rfl (fun _ => rd_assign (ev_t rfl)) ?_
  refine sr_sub [(1, _, _), (2, _, _), (3, _, _)] (sub_cons rfl (sub_cons rfl (sub_cons rfl (sub_nil _)))) ?_
  refine sr_nil (hK2 _ _ ?_)
  refine sc_seq fun K3 hK3 => ?_
  refine sc_text [3, 0, 3, 3] ?_
  refine sr_pu rfl (fun _ => rd_field fo_api_Node_1 (ev_t rfl)) ?_
  refine sr_rd rfl (rd_load one_string (ev_t rfl) (fun _ => B1.at_ rfl)) ?_
  refine sr_pu rfl (fun _ => rd_seq (ev_t rfl) ev_c) ?_
  refine sr_pu rfl (fun _ => rd_assign (ev_t rfl)) ?_
  refine sr_sub [(1, _, _), (2, _, _), (3, _, _), (4, _, _)] (sub_cons rfl (sub_cons rfl (sub_cons rfl (sub_cons rfl (sub_nil _))))) ?_
  refine sr_nil (hK3 _ _ ?_)
  refine sc_seq fun K4 hK4 => ?_
  refine sc_seq fun K5 hK5 => ?_
  refine sc_text [3, 0] ?_
  refine sr_pu rfl (fun _ => rd_field fo_api_Node_0 (ev_t rfl)) ?_
  refine sr_rd rfl (rd_load one_int (ev_t rfl) (fun _ => B1.at_ rfl)) ?_
  refine sr_sub [(1, _, _), (2, _, _), (3, _, _), (4, _, _), (12, _, _)] (sub_cons rfl (sub_cons rfl (sub_cons rfl (sub_cons rfl (sub_cons rfl (sub_nil _)))))) ?_
  refine sr_nil (hK5 _ _ ?_)
  refine sc_block ?_
  refine sc_seq fun K6 hK6 => ?_
  refine sc_text [3, 3] ?_
  refine sr_pu rfl (fun _ => rd_eq (ev_t rfl) ev_c) ?_
  refine sr_pu rfl (fun _ => rd_assign (ev_t rfl)) ?_
  refine sr_sub [(1, _, _), (2, _, _), (3, _, _), (4, _, _), (12, _, _), (13, _, _)] (sub_cons rfl (sub_cons rfl (sub_cons rfl (sub_cons rfl (sub_cons rfl (sub_cons rfl (sub_nil _))))))) ?_
  refine sr_nil (hK6 _ _ ?_)
  refine sc_cond (ev_t rfl) (fun h1 => ?_) (fun h1 => ?_)
  · (try simp only [bsimp] at h1)
    refine sc_seq fun K7 hK7 => ?_
    refine sc_text [0, 1, 3] ?_
    refine sr_rd rfl (rd_loads agg_api_Node (ev_t rfl) rfl (fun _ => B1.row)) ?_
    refine sr_pure rfl (rc_call go_r03_isVar ev_f (args_cons (ev_t rfl) (args_nil)) rfl) (isvar_ok t _ _ D _ (hk.grow g) ih) (fun w16 g16 => ?_)
    have g := g.trans (g16)
    replace B1 := B1.grow (g16)
    refine sr_pu rfl (fun _ => rd_assign (ev_t rfl)) ?_
    refine sr_sub [(2, _, _)] (sub_cons rfl (sub_nil _)) ?_
    refine sr_nil (hK7 _ _ ?_)
    refine sc_ret (t_ret1 rfl rfl ?_)
    refine ⟨congrArg Value.bool ?_, g⟩
    unfold refStmt; simp only [anyK, h1, cond_true, cond_false] <;> rfl
  (try simp only [bsimp] at h1)
  refine sc_seq fun K8 hK8 => ?_
  refine sc_text [3, 3] ?_
  refine sr_pu rfl (fun _ => rd_eq (ev_t rfl) ev_c) ?_
  refine sr_pu rfl (fun _ => rd_assign (ev_t rfl)) ?_
  refine sr_sub [(1, _, _), (2, _, _), (3, _, _), (4, _, _), (12, _, _), (17, _, _)] (sub_cons rfl (sub_cons rfl (sub_cons rfl (sub_cons rfl (sub_cons rfl (sub_cons rfl (sub_nil _))))))) ?_
  refine sr_nil (hK8 _ _ ?_)
  refine sc_cond (ev_t rfl) (fun h2 => ?_) (fun h2 => ?_)
  · (try simp only [bsimp] at h2)
    refine sc_seq fun K9 hK9 => ?_
    refine sc_text [0, 1, 3] ?_
    refine sr_rd rfl (rd_loads agg_api_Node (ev_t rfl) rfl (fun _ => B1.row)) ?_
    refine sr_pure rfl (rc_call go_r03_isBlock ev_f (args_cons (ev_t rfl) (args_nil)) rfl) (isblock_ok t _ _ D _ (hk.grow g) ih hln) (fun w20 g20 => ?_)
    have g := g.trans (g20)
    replace B1 := B1.grow (g20)
    refine sr_pu rfl (fun _ => rd_assign (ev_t rfl)) ?_
    refine sr_sub [(2, _, _)] (sub_cons rfl (sub_nil _)) ?_
    refine sr_nil (hK9 _ _ ?_)
    refine sc_ret (t_ret1 rfl rfl ?_)
    refine ⟨congrArg Value.bool ?_, g⟩
    unfold refStmt; simp only [anyK, h1, h2, cond_true, cond_false] <;> rfl
  (try simp only [bsimp] at h2)
  refine sc_seq fun K10 hK10 => ?_
  refine sc_text [3, 3] ?_
  refine sr_pu rfl (fun _ => rd_eq (ev_t rfl) ev_c) ?_
  refine sr_pu rfl (fun _ => rd_assign (ev_t rfl)) ?_
  refine sr_sub [(1, _, _), (2, _, _), (3, _, _), (4, _, _), (12, _, _), (21, _, _)] (sub_cons rfl (sub_cons rfl (sub_cons rfl (sub_cons rfl (sub_cons rfl (sub_cons rfl (sub_nil _))))))) ?_
  refine sr_nil (hK10 _ _ ?_)
  refine sc_cond (ev_t rfl) (fun h3 => ?_) (fun h3 => ?_)
  · (try simp only [bsimp] at h3)
    refine sc_seq fun K11 hK11 => ?_
    refine sc_text [0, 1, 3] ?_
    refine sr_rd rfl (rd_loads agg_api_Node (ev_t rfl) rfl (fun _ => B1.row)) ?_
    refine sr_pure rfl (rc_call go_r03_isIf ev_f (args_cons (ev_t rfl) (args_nil)) rfl) (isif_ok t _ _ D _ (hk.grow g) ih) (fun w24 g24 => ?_)
    have g := g.trans (g24)
    replace B1 := B1.grow (g24)
    refine sr_pu rfl (fun _ => rd_assign (ev_t rfl)) ?_
    refine sr_sub [(2, _, _)] (sub_cons rfl (sub_nil _)) ?_
    refine sr_nil (hK11 _ _ ?_)
    refine sc_ret (t_ret1 rfl rfl ?_)
    refine ⟨congrArg Value.bool ?_, g⟩
    unfold refStmt; simp only [anyK, h1, h2, h3, cond_true, cond_false] <;> rfl
  (try simp only [bsimp] at h3)
  refine sc_seq fun K12 hK12 => ?_
  refine sc_text [3, 3] ?_
  refine sr_pu rfl (fun _ => rd_eq (ev_t rfl) ev_c) ?_
  refine sr_pu rfl (fun _ => rd_assign (ev_t rfl)) ?_
  refine sr_sub [(1, _, _), (2, _, _), (3, _, _), (4, _, _), (12, _, _), (25, _, _)] (sub_cons rfl (sub_cons rfl (sub_cons rfl (sub_cons rfl (sub_cons rfl (sub_cons rfl (sub_nil _))))))) ?_
  refine sr_nil (hK12 _ _ ?_)
  refine sc_cond (ev_t rfl) (fun h4 => ?_) (fun h4 => ?_)
  · (try simp only [bsimp] at h4)
    refine sc_seq fun K13 hK13 => ?_
    refine sc_text [0, 1, 3] ?_
    refine sr_rd rfl (rd_loads agg_api_Node (ev_t rfl) rfl (fun _ => B1.row)) ?_
    refine sr_pure rfl (rc_call go_r03_isSelect ev_f (args_cons (ev_t rfl) (args_nil)) rfl) (isselect_ok t _ _ D _ (hk.grow g) ih hln) (fun w28 g28 => ?_)
    have g := g.trans (g28)
    replace B1 := B1.grow (g28)
    refine sr_pu rfl (fun _ => rd_assign (ev_t rfl)) ?_
    refine sr_sub [(2, _, _)] (sub_cons rfl (sub_nil _)) ?_
    refine sr_nil (hK13 _ _ ?_)
    refine sc_ret (t_ret1 rfl rfl ?_)
    refine ⟨congrArg Value.bool ?_, g⟩
    rw [refSelect_eq (by simpa using h4)]; unfold refStmt; simp only [anyK, h1, h2, h3, h4, cond_true, cond_false] <;> rfl
  (try simp only [bsimp] at h4)
  refine sc_seq fun K14 hK14 => ?_
  refine sc_text [3, 3] ?_
  refine sr_pu rfl (fun _ => rd_eq (ev_t rfl) ev_c) ?_
  refine sr_pu rfl (fun _ => rd_assign (ev_t rfl)) ?_
  refine sr_sub [(1, _, _), (2, _, _), (3, _, _), (4, _, _), (12, _, _), (29, _, _)] (sub_cons rfl (sub_cons rfl (sub_cons rfl (sub_cons rfl (sub_cons rfl (sub_cons rfl (sub_nil _))))))) ?_
  refine sr_nil (hK14 _ _ ?_)
  refine sc_cond (ev_t rfl) (fun h5 => ?_) (fun h5 => ?_)
  · (try simp only [bsimp] at h5)
    refine sc_seq fun K15 hK15 => ?_
    refine sc_text [3, 0, 1, 3, 3, 3, 3, 3, 3, 0, 3, 0, 1, 3, 3] ?_
    refine sr_pu rfl (fun _ => rd_field fo_api_Node_1 (ev_t rfl)) ?_
    refine sr_rd rfl (rd_load one_string (ev_t rfl) (fun _ => B1.at_ rfl)) ?_
    refine sr_pure rfl (rc_call go_r02_Name ev_f (args_cons (ev_t rfl) (args_nil)) rfl) (rname_ok _ _) (fun w33 g33 => ?_)
    have g := g.trans (g33)
    replace B1 := B1.grow (g33)
    refine sr_pu rfl (fun _ => rd_move (ev_t rfl)) ?_
    refine sr_pug rfl rfl rfl (fun _ => rd_move (ev_t rfl)) ?_
    refine sr_pug rfl rfl rfl (fun _ => rd_eq (ev_u rfl id) ev_c) ?_
    refine sr_pu rfl (fun _ => rd_pick_and (ev_t rfl) (ev_u rfl id)) ?_
    refine sr_pu rfl (fun _ => rd_move (ev_t rfl)) ?_
    refine sr_pug rfl rfl rfl (fun _ => rd_field fo_api_Node_4 (ev_t rfl)) ?_
    refine sr_rdg rfl rfl rfl (rd_load one_sl_api_Node (ev_u rfl id) (fun _ => B1.at_ rfl)) ?_
    refine sr_pug rfl rfl rfl (fun _ => rd_idxq el_sl_api_Node (ev_u rfl id) ev_c (fun hc => by (have hz := hc.2; first | (unfold lenK at hz; simp at hz; omega) | (simp at hz; omega))) (fun hc => (h0x (by (have hz := hc.2; first | (unfold lenK at hz; simp at hz; omega) | (simp at hz; omega)))).1)) ?_
    refine sr_rdg rfl rfl rfl (rd_loads agg_api_Node (ev_u rfl id) rfl (fun hc => (h0x (by (have hz := hc.2; first | (unfold lenK at hz; simp at hz; omega) | (simp at hz; omega)))).2.1.grow g)) ?_
    refine sr_pureg rfl rfl rfl (fun _ => (rc_call go_r03_IsExpr ev_f (args_cons (ev_u rfl id) (args_nil)) rfl)) (fun hc => (h0x (by (have hz := hc.2; first | (unfold lenK at hz; simp at hz; omega) | (simp at hz; omega)))).2.2.2.ex _ _ D _ ((h0x (by (have hz := hc.2; first | (unfold lenK at hz; simp at hz; omega) | (simp at hz; omega)))).2.2.1.grow g)) (fun w43 g43 => ?_)
    have g := g.trans (g43)
    replace B1 := B1.grow (g43)
    refine sr_pu rfl (fun _ => rd_pick_and (ev_t rfl) (ev_u rfl id)) ?_
    refine sr_pu rfl (fun _ => rd_assign (ev_t rfl)) ?_
    refine sr_sub [(2, _, _)] (sub_cons rfl (sub_nil _)) ?_
    refine sr_nil (hK15 _ _ ?_)
    refine sc_ret (t_ret1 rfl rfl ?_)
    refine ⟨congrArg Value.bool ?_, g⟩
    unfold refStmt; simp only [anyK, h1, h2, h3, h4, h5, cond_true, cond_false] <;> rfl
  (try simp only [bsimp] at h5)
  refine sc_seq fun K16 hK16 => ?_
  refine sc_seq fun K17 hK17 => ?_
  refine sc_text [3, 3] ?_
  refine sr_pu rfl (fun _ => rd_eq (ev_t rfl) ev_c) ?_
  refine sr_pu rfl (fun _ => rd_assign (ev_t rfl)) ?_
  refine sr_sub [(1, _, _), (2, _, _), (3, _, _), (4, _, _), (12, _, _), (45, _, _)] (sub_cons rfl (sub_cons rfl (sub_cons rfl (sub_cons rfl (sub_cons rfl (sub_cons rfl (sub_nil _))))))) ?_
  refine sr_nil (hK17 _ _ ?_)
  refine' sc_or [(1, _, _), (2, _, _), (3, _, _), (4, _, _), (12, _, _)] (sub_cons rfl (sub_cons rfl (sub_cons rfl (sub_cons rfl (sub_cons rfl (sub_cons rfl (sub_nil _))))))) rfl (fun hb6 => ?y6) (hK16 _ _ ?n6)
  case y6 =>
   refine sc_text [3, 3] ?_
   refine sr_pu rfl (fun _ => rd_eq (ev_t rfl) ev_c) ?_
   refine sr_pu rfl (fun _ => rd_assign (ev_t rfl)) ?_
   refine sr_sub [(45, _, _), (1, _, _), (2, _, _), (3, _, _), (4, _, _), (12, _, _)] (sub_cons rfl (sub_cons rfl (sub_cons rfl (sub_cons rfl (sub_cons rfl (sub_cons rfl (sub_nil _))))))) ?_
   exact sr_nil (fun a ha => ⟨ha, rfl⟩)
  case n6 =>
   refine sc_cond (ev_t rfl) (fun h7 => ?_) (fun h7 => ?_)
   · (try simp only [bsimp] at h7)
     refine sc_seq fun K18 hK18 => ?_
     refine sc_text [3, 3, 3, 3, 3, 3, 3, 0, 1, 3, 3] ?_
     refine sr_pu rfl (fun _ => rd_move (ev_t rfl)) ?_
     refine sr_pu rfl (fun _ => rd_move (ev_t rfl)) ?_
     refine sr_pug rfl rfl rfl (fun _ => rd_move (ev_t rfl)) ?_
     refine sr_pug rfl rfl rfl (fun _ => rd_eq (ev_u rfl id) ev_c) ?_
     refine sr_pu rfl (fun _ => rd_pick_and (ev_t rfl) (ev_u rfl id)) ?_
     refine sr_pu rfl (fun _ => rd_move (ev_t rfl)) ?_
     refine sr_pug rfl rfl rfl (fun _ => rd_field fo_api_Node_4 (ev_t rfl)) ?_
     refine sr_rdg rfl rfl rfl (rd_load one_sl_api_Node (ev_u rfl id) (fun _ => B1.at_ rfl)) ?_
     refine sr_pureg rfl rfl rfl (fun _ => (rc_call go_r03_expressions ev_f (args_cons (ev_u rfl id) (args_nil)) rfl)) (fun hc => exprs_ok _ _ _ D _ (hk.grow g) hr hln) (fun w56 g56 => ?_)
     have g := g.trans (g56)
     replace B1 := B1.grow (g56)
     refine sr_pu rfl (fun _ => rd_pick_and (ev_t rfl) (ev_u rfl id)) ?_
     refine sr_pu rfl (fun _ => rd_assign (ev_t rfl)) ?_
     refine sr_sub [(2, _, _)] (sub_cons rfl (sub_nil _)) ?_
     refine sr_nil (hK18 _ _ ?_)
     refine sc_ret (t_ret1 rfl rfl ?_)
     refine ⟨congrArg Value.bool ?_, g⟩
     unfold refStmt; simp only [anyK, h1, h2, h3, h4, h5, h7, cond_true, cond_false] <;> rfl
   (try simp only [bsimp] at h7)
   refine sc_seq fun K19 hK19 => ?_
   refine sc_text [3, 3] ?_
   refine sr_pu rfl (fun _ => rd_eq (ev_t rfl) ev_c) ?_
   refine sr_pu rfl (fun _ => rd_assign (ev_t rfl)) ?_
   refine sr_sub [(1, _, _), (2, _, _), (3, _, _), (4, _, _), (12, _, _), (58, _, _)] (sub_cons rfl (sub_cons rfl (sub_cons rfl (sub_cons rfl (sub_cons rfl (sub_cons rfl (sub_nil _))))))) ?_
   refine sr_nil (hK19 _ _ ?_)
   refine sc_cond (ev_t rfl) (fun h8 => ?_) (fun h8 => ?_)
   · (try simp only [bsimp] at h8)
     refine sc_seq fun K20 hK20 => ?_
     refine sc_text [3, 3, 3, 3, 3, 3, 3, 0, 3, 0, 1, 3, 3, 0, 3, 0, 1, 3, 3, 3] ?_
     refine sr_pu rfl (fun _ => rd_move (ev_t rfl)) ?_
     refine sr_pu rfl (fun _ => rd_move (ev_t rfl)) ?_
     refine sr_pug rfl rfl rfl (fun _ => rd_move (ev_t rfl)) ?_
     refine sr_pug rfl rfl rfl (fun _ => rd_eq (ev_u rfl id) ev_c) ?_
     refine sr_pu rfl (fun _ => rd_pick_and (ev_t rfl) (ev_u rfl id)) ?_
     refine sr_pu rfl (fun _ => rd_move (ev_t rfl)) ?_
     refine sr_pug rfl rfl rfl (fun _ => rd_field fo_api_Node_4 (ev_t rfl)) ?_
     refine sr_rdg rfl rfl rfl (rd_load one_sl_api_Node (ev_u rfl id) (fun _ => B1.at_ rfl)) ?_
     refine sr_pug rfl rfl rfl (fun _ => rd_idxq el_sl_api_Node (ev_u rfl id) ev_c (fun hc => by (have hz := hc.2; first | (unfold lenK at hz; simp at hz; omega) | (simp at hz; omega))) (fun hc => (h0x (by (have hz := hc.2; first | (unfold lenK at hz; simp at hz; omega) | (simp at hz; omega)))).1)) ?_
     refine sr_rdg rfl rfl rfl (rd_loads agg_api_Node (ev_u rfl id) rfl (fun hc => (h0x (by (have hz := hc.2; first | (unfold lenK at hz; simp at hz; omega) | (simp at hz; omega)))).2.1.grow g)) ?_
     refine sr_pureg rfl rfl rfl (fun _ => (rc_call go_r03_kind ev_f (args_cons (ev_u rfl id) (args_cons ev_c (args_nil))) rfl)) (fun hc => kind_ok _ _ _ _ D _ ((h0x (by (have hz := hc.2; first | (unfold lenK at hz; simp at hz; omega) | (simp at hz; omega)))).2.2.1.grow g) (h0x (by (have hz := hc.2; first | (unfold lenK at hz; simp at hz; omega) | (simp at hz; omega)))).2.2.2) (fun w70 g70 => ?_)
     have g := g.trans (g70)
     replace B1 := B1.grow (g70)
     refine sr_pug rfl rfl rfl (fun _ => rd_move (ev_u rfl id)) ?_
     refine sr_pug rfl rfl rfl (fun _ => rd_field fo_api_Node_4 (ev_t rfl)) ?_
     refine sr_rdg rfl rfl rfl (rd_load one_sl_api_Node (ev_u rfl id) (fun _ => B1.at_ rfl)) ?_
     refine sr_pug rfl rfl rfl (fun _ => rd_idxq el_sl_api_Node (ev_u rfl id) ev_c (fun hc => by (have hz := hc.1.2; first | (unfold lenK at hz; simp at hz; omega) | (simp at hz; omega))) (fun hc => (h0x (by (have hz := hc.1.2; first | (unfold lenK at hz; simp at hz; omega) | (simp at hz; omega)))).1)) ?_
     refine sr_rdg rfl rfl rfl (rd_loads agg_api_Node (ev_u rfl id) rfl (fun hc => (h0x (by (have hz := hc.1.2; first | (unfold lenK at hz; simp at hz; omega) | (simp at hz; omega)))).2.1.grow g)) ?_
     refine sr_pureg rfl rfl rfl (fun _ => (rc_call go_r03_kind ev_f (args_cons (ev_u rfl id) (args_cons ev_c (args_nil))) rfl)) (fun hc => kind_ok _ _ _ _ D _ ((h0x (by (have hz := hc.1.2; first | (unfold lenK at hz; simp at hz; omega) | (simp at hz; omega)))).2.2.1.grow g) (h0x (by (have hz := hc.1.2; first | (unfold lenK at hz; simp at hz; omega) | (simp at hz; omega)))).2.2.2) (fun w76 g76 => ?_)
     have g := g.trans (g76)
     replace B1 := B1.grow (g76)
     refine sr_pug rfl rfl rfl (fun _ => rd_pick_or (ev_u rfl id) (ev_u rfl id)) ?_
     refine sr_pu rfl (fun _ => rd_pick_and (ev_t rfl) (ev_u rfl id)) ?_
     refine sr_pu rfl (fun _ => rd_assign (ev_t rfl)) ?_
     refine sr_sub [(2, _, _)] (sub_cons rfl (sub_nil _)) ?_
     refine sr_nil (hK20 _ _ ?_)
     refine sc_ret (t_ret1 rfl rfl ?_)
     refine ⟨congrArg Value.bool ?_, g⟩
     unfold refStmt; simp only [anyK, h1, h2, h3, h4, h5, h7, h8, cond_true, cond_false] <;> rfl
   (try simp only [bsimp] at h8)
   refine sc_seq fun K21 hK21 => ?_
   refine sc_seq fun K22 hK22 => ?_
   refine sc_text [3, 3] ?_
   refine sr_pu rfl (fun _ => rd_eq (ev_t rfl) ev_c) ?_
   refine sr_pu rfl (fun _ => rd_assign (ev_t rfl)) ?_
   refine sr_sub [(1, _, _), (2, _, _), (3, _, _), (4, _, _), (12, _, _), (79, _, _)] (sub_cons rfl (sub_cons rfl (sub_cons rfl (sub_cons rfl (sub_cons rfl (sub_cons rfl (sub_nil _))))))) ?_
   refine sr_nil (hK22 _ _ ?_)
   refine' sc_or [(1, _, _), (2, _, _), (3, _, _), (4, _, _), (12, _, _)] (sub_cons rfl (sub_cons rfl (sub_cons rfl (sub_cons rfl (sub_cons rfl (sub_cons rfl (sub_nil _))))))) rfl (fun hb9 => ?y9) (hK21 _ _ ?n9)
   case y9 =>
    refine sc_text [3, 3] ?_
    refine sr_pu rfl (fun _ => rd_eq (ev_t rfl) ev_c) ?_
    refine sr_pu rfl (fun _ => rd_assign (ev_t rfl)) ?_
    refine sr_sub [(79, _, _), (1, _, _), (2, _, _), (3, _, _), (4, _, _), (12, _, _)] (sub_cons rfl (sub_cons rfl (sub_cons rfl (sub_cons rfl (sub_cons rfl (sub_cons rfl (sub_nil _))))))) ?_
    exact sr_nil (fun a ha => ⟨ha, rfl⟩)
   case n9 =>
    refine sc_cond (ev_t rfl) (fun h10 => ?_) (fun h10 => ?_)
    · (try simp only [bsimp] at h10)
      refine sc_seq fun K23 hK23 => ?_
      refine sc_text [3, 3, 3, 3, 3, 3, 3, 0, 3, 0, 1, 3, 3] ?_
      refine sr_pu rfl (fun _ => rd_move (ev_t rfl)) ?_
      refine sr_pu rfl (fun _ => rd_move (ev_t rfl)) ?_
      refine sr_pug rfl rfl rfl (fun _ => rd_move (ev_t rfl)) ?_
      refine sr_pug rfl rfl rfl (fun _ => rd_eq (ev_u rfl id) ev_c) ?_
      refine sr_pu rfl (fun _ => rd_pick_and (ev_t rfl) (ev_u rfl id)) ?_
      refine sr_pu rfl (fun _ => rd_move (ev_t rfl)) ?_
      refine sr_pug rfl rfl rfl (fun _ => rd_field fo_api_Node_4 (ev_t rfl)) ?_
      refine sr_rdg rfl rfl rfl (rd_load one_sl_api_Node (ev_u rfl id) (fun _ => B1.at_ rfl)) ?_
      refine sr_pug rfl rfl rfl (fun _ => rd_idxq el_sl_api_Node (ev_u rfl id) ev_c (fun hc => by (have hz := hc.2; first | (unfold lenK at hz; simp at hz; omega) | (simp at hz; omega))) (fun hc => (h0x (by (have hz := hc.2; first | (unfold lenK at hz; simp at hz; omega) | (simp at hz; omega)))).1)) ?_
      refine sr_rdg rfl rfl rfl (rd_loads agg_api_Node (ev_u rfl id) rfl (fun hc => (h0x (by (have hz := hc.2; first | (unfold lenK at hz; simp at hz; omega) | (simp at hz; omega)))).2.1.grow g)) ?_
      refine sr_pureg rfl rfl rfl (fun _ => (rc_call go_r03_kind ev_f (args_cons (ev_u rfl id) (args_cons ev_c (args_nil))) rfl)) (fun hc => kind_ok _ _ _ _ D _ ((h0x (by (have hz := hc.2; first | (unfold lenK at hz; simp at hz; omega) | (simp at hz; omega)))).2.2.1.grow g) (h0x (by (have hz := hc.2; first | (unfold lenK at hz; simp at hz; omega) | (simp at hz; omega)))).2.2.2) (fun w92 g92 => ?_)
      have g := g.trans (g92)
      replace B1 := B1.grow (g92)
      refine sr_pu rfl (fun _ => rd_pick_and (ev_t rfl) (ev_u rfl id)) ?_
      refine sr_pu rfl (fun _ => rd_assign (ev_t rfl)) ?_
      refine sr_sub [(2, _, _)] (sub_cons rfl (sub_nil _)) ?_
      refine sr_nil (hK23 _ _ ?_)
      refine sc_ret (t_ret1 rfl rfl ?_)
      refine ⟨congrArg Value.bool ?_, g⟩
      unfold refStmt; simp only [anyK, h1, h2, h3, h4, h5, h7, h8, h10, cond_true, cond_false] <;> rfl
    (try simp only [bsimp] at h10)
    refine sc_seq fun K24 hK24 => ?_
    refine sc_seq fun K25 hK25 => ?_
    refine sc_text [3, 3] ?_
    refine sr_pu rfl (fun _ => rd_eq (ev_t rfl) ev_c) ?_
    refine sr_pu rfl (fun _ => rd_assign (ev_t rfl)) ?_
    refine sr_sub [(1, _, _), (2, _, _), (3, _, _), (4, _, _), (12, _, _), (94, _, _)] (sub_cons rfl (sub_cons rfl (sub_cons rfl (sub_cons rfl (sub_cons rfl (sub_cons rfl (sub_nil _))))))) ?_
    refine sr_nil (hK25 _ _ ?_)
    refine' sc_or [(1, _, _), (2, _, _), (3, _, _), (4, _, _), (12, _, _)] (sub_cons rfl (sub_cons rfl (sub_cons rfl (sub_cons rfl (sub_cons rfl (sub_cons rfl (sub_nil _))))))) rfl (fun hb11 => ?y11) (hK24 _ _ ?n11)
    case y11 =>
     refine sc_text [3, 3] ?_
     refine sr_pu rfl (fun _ => rd_eq (ev_t rfl) ev_c) ?_
     refine sr_pu rfl (fun _ => rd_assign (ev_t rfl)) ?_
     refine sr_sub [(94, _, _), (1, _, _), (2, _, _), (3, _, _), (4, _, _), (12, _, _)] (sub_cons rfl (sub_cons rfl (sub_cons rfl (sub_cons rfl (sub_cons rfl (sub_cons rfl (sub_nil _))))))) ?_
     exact sr_nil (fun a ha => ⟨ha, rfl⟩)
    case n11 =>
     refine sc_cond (ev_t rfl) (fun h12 => ?_) (fun h12 => ?_)
     · (try simp only [bsimp] at h12)
       refine sc_seq fun K26 hK26 => ?_
       refine sc_text [3, 3, 3, 3, 3, 3, 3, 0, 3, 0, 1, 3, 3] ?_
       refine sr_pu rfl (fun _ => rd_move (ev_t rfl)) ?_
       refine sr_pu rfl (fun _ => rd_move (ev_t rfl)) ?_
       refine sr_pug rfl rfl rfl (fun _ => rd_move (ev_t rfl)) ?_
       refine sr_pug rfl rfl rfl (fun _ => rd_eq (ev_u rfl id) ev_c) ?_
       refine sr_pu rfl (fun _ => rd_pick_and (ev_t rfl) (ev_u rfl id)) ?_
       refine sr_pu rfl (fun _ => rd_move (ev_t rfl)) ?_
       refine sr_pug rfl rfl rfl (fun _ => rd_field fo_api_Node_4 (ev_t rfl)) ?_
       refine sr_rdg rfl rfl rfl (rd_load one_sl_api_Node (ev_u rfl id) (fun _ => B1.at_ rfl)) ?_
       refine sr_pug rfl rfl rfl (fun _ => rd_idxq el_sl_api_Node (ev_u rfl id) ev_c (fun hc => by (have hz := hc.2; first | (unfold lenK at hz; simp at hz; omega) | (simp at hz; omega))) (fun hc => (h0x (by (have hz := hc.2; first | (unfold lenK at hz; simp at hz; omega) | (simp at hz; omega)))).1)) ?_
       refine sr_rdg rfl rfl rfl (rd_loads agg_api_Node (ev_u rfl id) rfl (fun hc => (h0x (by (have hz := hc.2; first | (unfold lenK at hz; simp at hz; omega) | (simp at hz; omega)))).2.1.grow g)) ?_
       refine sr_pureg rfl rfl rfl (fun _ => (rc_call go_r03_IsExpr ev_f (args_cons (ev_u rfl id) (args_nil)) rfl)) (fun hc => (h0x (by (have hz := hc.2; first | (unfold lenK at hz; simp at hz; omega) | (simp at hz; omega)))).2.2.2.ex _ _ D _ ((h0x (by (have hz := hc.2; first | (unfold lenK at hz; simp at hz; omega) | (simp at hz; omega)))).2.2.1.grow g)) (fun w107 g107 => ?_)
       have g := g.trans (g107)
       replace B1 := B1.grow (g107)
       refine sr_pu rfl (fun _ => rd_pick_and (ev_t rfl) (ev_u rfl id)) ?_
       refine sr_pu rfl (fun _ => rd_assign (ev_t rfl)) ?_
       refine sr_sub [(2, _, _)] (sub_cons rfl (sub_nil _)) ?_
       refine sr_nil (hK26 _ _ ?_)
       refine sc_ret (t_ret1 rfl rfl ?_)
       refine ⟨congrArg Value.bool ?_, g⟩
       unfold refStmt; simp only [anyK, h1, h2, h3, h4, h5, h7, h8, h10, h12, cond_true, cond_false] <;> rfl
     (try simp only [bsimp] at h12)
     refine sc_seq fun K27 hK27 => ?_
     refine sc_text [3, 3] ?_
     refine sr_pu rfl (fun _ => rd_eq (ev_t rfl) ev_c) ?_
     refine sr_pu rfl (fun _ => rd_assign (ev_t rfl)) ?_
     refine sr_sub [(1, _, _), (2, _, _), (3, _, _), (4, _, _), (12, _, _), (109, _, _)] (sub_cons rfl (sub_cons rfl (sub_cons rfl (sub_cons rfl (sub_cons rfl (sub_cons rfl (sub_nil _))))))) ?_
     refine sr_nil (hK27 _ _ ?_)
     refine sc_cond (ev_t rfl) (fun h13 => ?_) (fun h13 => ?_)
     · (try simp only [bsimp] at h13)
       refine sc_seq fun K28 hK28 => ?_
       refine sc_text [3, 3, 3, 3, 3, 3, 3, 0, 1, 3, 3] ?_
       refine sr_pu rfl (fun _ => rd_move (ev_t rfl)) ?_
       refine sr_pu rfl (fun _ => rd_move (ev_t rfl)) ?_
       refine sr_pug rfl rfl rfl (fun _ => rd_move (ev_t rfl)) ?_
       refine sr_pug rfl rfl rfl (fun _ => rd_le (ev_u rfl id) ev_c) ?_
       refine sr_pu rfl (fun _ => rd_pick_and (ev_t rfl) (ev_u rfl id)) ?_
       refine sr_pu rfl (fun _ => rd_move (ev_t rfl)) ?_
       refine sr_pug rfl rfl rfl (fun _ => rd_field fo_api_Node_4 (ev_t rfl)) ?_
       refine sr_rdg rfl rfl rfl (rd_load one_sl_api_Node (ev_u rfl id) (fun _ => B1.at_ rfl)) ?_
       refine sr_pureg rfl rfl rfl (fun _ => (rc_call go_r03_expressions ev_f (args_cons (ev_u rfl id) (args_nil)) rfl)) (fun hc => exprs_ok _ _ _ D _ (hk.grow g) hr hln) (fun w119 g119 => ?_)
       have g := g.trans (g119)
       replace B1 := B1.grow (g119)
       refine sr_pu rfl (fun _ => rd_pick_and (ev_t rfl) (ev_u rfl id)) ?_
       refine sr_pu rfl (fun _ => rd_assign (ev_t rfl)) ?_
       refine sr_sub [(2, _, _)] (sub_cons rfl (sub_nil _)) ?_
       refine sr_nil (hK28 _ _ ?_)
       refine sc_ret (t_ret1 rfl rfl ?_)
       refine ⟨congrArg Value.bool ?_, g⟩
       unfold refStmt; simp only [anyK, h1, h2, h3, h4, h5, h7, h8, h10, h12, h13, cond_true, cond_false] <;> rfl
     (try simp only [bsimp] at h13)
     refine sc_seq fun K29 hK29 => ?_
     refine sc_text [3, 3] ?_
     refine sr_pu rfl (fun _ => rd_eq (ev_t rfl) ev_c) ?_
     refine sr_pu rfl (fun _ => rd_assign (ev_t rfl)) ?_
     refine sr_sub [(1, _, _), (2, _, _), (3, _, _), (4, _, _), (121, _, _)] (sub_cons rfl (sub_cons rfl (sub_cons rfl (sub_cons rfl (sub_cons rfl (sub_nil _)))))) ?_
     refine sr_nil (hK29 _ _ ?_)
     refine sc_cond (ev_t rfl) (fun h14 => ?_) (fun h14 => ?_)
     · (try simp only [bsimp] at h14)
       refine sc_seq fun K30 hK30 => ?_
       refine sc_text [3, 3, 3, 3, 3, 3, 3, 0, 3, 0, 1, 3, 3, 0, 3, 0, 1, 3, 3, 3, 3, 0, 3, 0, 1, 3, 3] ?_
       refine sr_pu rfl (fun _ => rd_move (ev_t rfl)) ?_
       refine sr_pu rfl (fun _ => rd_move (ev_t rfl)) ?_
       refine sr_pug rfl rfl rfl (fun _ => rd_move (ev_t rfl)) ?_
       refine sr_pug rfl rfl rfl (fun _ => rd_eq (ev_u rfl id) ev_c) ?_
       refine sr_pu rfl (fun _ => rd_pick_and (ev_t rfl) (ev_u rfl id)) ?_
       refine sr_pu rfl (fun _ => rd_move (ev_t rfl)) ?_
       refine sr_pug rfl rfl rfl (fun _ => rd_field fo_api_Node_4 (ev_t rfl)) ?_
       refine sr_rdg rfl rfl rfl (rd_load one_sl_api_Node (ev_u rfl id) (fun _ => B1.at_ rfl)) ?_
       refine sr_pug rfl rfl rfl (fun _ => rd_idxq el_sl_api_Node (ev_u rfl id) ev_c (fun hc => by (have hz := hc.2; first | (unfold lenK at hz; simp at hz; omega) | (simp at hz; omega))) (fun hc => (h0x (by (have hz := hc.2; first | (unfold lenK at hz; simp at hz; omega) | (simp at hz; omega)))).1)) ?_
       refine sr_rdg rfl rfl rfl (rd_loads agg_api_Node (ev_u rfl id) rfl (fun hc => (h0x (by (have hz := hc.2; first | (unfold lenK at hz; simp at hz; omega) | (simp at hz; omega)))).2.1.grow g)) ?_
       refine sr_pureg rfl rfl rfl (fun _ => (rc_call go_r03_isNone ev_f (args_cons (ev_u rfl id) (args_nil)) rfl)) (fun hc => none_ok _ _ _ _) (fun w133 g133 => ?_)
       have g := g.trans (g133)
       replace B1 := B1.grow (g133)
       refine sr_pug rfl rfl rfl (fun _ => rd_move (ev_u rfl id)) ?_
       refine sr_pug rfl rfl rfl (fun _ => rd_field fo_api_Node_4 (ev_t rfl)) ?_
       refine sr_rdg rfl rfl rfl (rd_load one_sl_api_Node (ev_u rfl id) (fun _ => B1.at_ rfl)) ?_
       refine sr_pug rfl rfl rfl (fun _ => rd_idxq el_sl_api_Node (ev_u rfl id) ev_c (fun hc => by (have hz := hc.1.2; first | (unfold lenK at hz; simp at hz; omega) | (simp at hz; omega))) (fun hc => (h0x (by (have hz := hc.1.2; first | (unfold lenK at hz; simp at hz; omega) | (simp at hz; omega)))).1)) ?_
       refine sr_rdg rfl rfl rfl (rd_loads agg_api_Node (ev_u rfl id) rfl (fun hc => (h0x (by (have hz := hc.1.2; first | (unfold lenK at hz; simp at hz; omega) | (simp at hz; omega)))).2.1.grow g)) ?_
       refine sr_pureg rfl rfl rfl (fun _ => (rc_call go_r03_IsExpr ev_f (args_cons (ev_u rfl id) (args_nil)) rfl)) (fun hc => (h0x (by (have hz := hc.1.2; first | (unfold lenK at hz; simp at hz; omega) | (simp at hz; omega)))).2.2.2.ex _ _ D _ ((h0x (by (have hz := hc.1.2; first | (unfold lenK at hz; simp at hz; omega) | (simp at hz; omega)))).2.2.1.grow g)) (fun w139 g139 => ?_)
       have g := g.trans (g139)
       replace B1 := B1.grow (g139)
       refine sr_pug rfl rfl rfl (fun _ => rd_pick_or (ev_u rfl id) (ev_u rfl id)) ?_
       refine sr_pu rfl (fun _ => rd_pick_and (ev_t rfl) (ev_u rfl id)) ?_
       refine sr_pu rfl (fun _ => rd_move (ev_t rfl)) ?_
       refine sr_pug rfl rfl rfl (fun _ => rd_field fo_api_Node_4 (ev_t rfl)) ?_
       refine sr_rdg rfl rfl rfl (rd_load one_sl_api_Node (ev_u rfl id) (fun _ => B1.at_ rfl)) ?_
       refine sr_pug rfl rfl rfl (fun _ => rd_idxq el_sl_api_Node (ev_u rfl id) ev_c (fun hc => by (have hz := hc.2; first | (unfold lenK at hz; simp at hz; omega) | (simp at hz; omega))) (fun hc => (h1x (by (have hz := hc.2; first | (unfold lenK at hz; simp at hz; omega) | (simp at hz; omega)))).1)) ?_
       refine sr_rdg rfl rfl rfl (rd_loads agg_api_Node (ev_u rfl id) rfl (fun hc => (h1x (by (have hz := hc.2; first | (unfold lenK at hz; simp at hz; omega) | (simp at hz; omega)))).2.1.grow g)) ?_
       refine sr_pureg rfl rfl rfl (fun _ => (rc_call go_r03_isBlock ev_f (args_cons (ev_u rfl id) (args_nil)) rfl)) (fun hc => (h1x (by (have hz := hc.2; first | (unfold lenK at hz; simp at hz; omega) | (simp at hz; omega)))).2.2.2.bl _ _ D _ ((h1x (by (have hz := hc.2; first | (unfold lenK at hz; simp at hz; omega) | (simp at hz; omega)))).2.2.1.grow g)) (fun w147 g147 => ?_)
       have g := g.trans (g147)
       replace B1 := B1.grow (g147)
       refine sr_pu rfl (fun _ => rd_pick_and (ev_t rfl) (ev_u rfl id)) ?_
       refine sr_pu rfl (fun _ => rd_assign (ev_t rfl)) ?_
       refine sr_sub [(2, _, _)] (sub_cons rfl (sub_nil _)) ?_
       refine sr_nil (hK30 _ _ ?_)
       refine sc_ret (t_ret1 rfl rfl ?_)
       refine ⟨congrArg Value.bool ?_, g⟩
       unfold refStmt; simp only [anyK, h1, h2, h3, h4, h5, h7, h8, h10, h12, h13, h14, cond_true, cond_false] <;> rfl
     (try simp only [bsimp] at h14)
     refine sc_skip (hK4 _ _ ?_)
     refine sc_sub [(2, _, _)] (sub_cons rfl (sub_nil _)) ?_
     refine sc_seq fun K31 hK31 => ?_
     refine sc_text [3] ?_
     refine sr_pu rfl (fun _ => rd_assign ev_c) ?_
     refine sr_nil (hK31 _ _ ?_)
     refine sc_ret (t_ret1 rfl rfl ?_)
     refine ⟨congrArg Value.bool ?_, g⟩
     unfold refStmt; simp only [anyK, h1, h2, h3, h4, h5, h7, h8, h10, h12, h13, h14, cond_true, cond_false] <;> rfl
theorem stmt_k13 {t : Nd} (h : t.kind = 13 ∨ t.kind = 11) (hp : stmtB t = true) : t.kids.length = 1 := perm_len1 h (Bool.and_eq_true_iff.1 hp).2
theorem stmt_k12 {t : Nd} (h : t.kind = 12) (hp : stmtB t = true) : t.kids.length = 2 := perm_len2 (.inl h) (Bool.and_eq_true_iff.1 hp).2
theorem iscomm_ok (t : Nd) (p : Option Addr) (c : Nat) (D : Nat → Prop) (w : World) (hk : Kd w D t.kids (.slice p t.kids.length c)) (ih : Below t) (hln : t.kids.length ≤ 1000000) : Ret PP fn_r03_isComm #[ndV t (.slice p t.kids.length c)] w fun r w' => r = .bool (commF t) ∧ G w w' := by
  rw [← refComm_eq]
  have g := G.refl w
  obtain ⟨p0, c0, h0x⟩ := kd_ih hk ih 0
  obtain ⟨p1, c1, h1x⟩ := kd_ih hk ih 1
  refine ret_of_sc (m := 50) func_r03_isComm rfl rfl [(0, True, _)] (sub_cons rfl (sub_nil _)) ?_
  refine sc_seq fun K1 hK1 => ?_
  refine sc_text [1, 3] ?_
  refine sr_box rfl (ev_t rfl) rfl ?_
  intro b1 w1 N1
  have l1 := N1.ge g
  have g := g.trans (N1.g)
  have B1 := N1.blk
  refine sr_pu rfl (fun _ => rd_assign ev_c) ?_
  refine sr_sub [(1, _, _), (2, _, _)] (sub_cons rfl (sub_cons rfl (sub_nil _))) ?_
  refine sr_nil (hK1 _ _ ?_)
  refine sc_seq fun K2 hK2 => ?_
  refine sc_seq fun K3 hK3 => ?_
  refine sc_text [3, 0] ?_
  refine sr_pu rfl (fun _ => rd_field fo_api_Node_0 (ev_t rfl)) ?_
  refine sr_rd rfl (rd_load one_int (ev_t rfl) (fun _ => B1.at_ rfl)) ?_
  refine sr_sub [(1, _, _), (2, _, _), (4, _, _)] (sub_cons rfl (sub_cons rfl (sub_cons rfl (sub_nil _)))) ?_
  refine sr_nil (hK3 _ _ ?_)
  refine sc_block ?_
  refine sc_seq fun K4 hK4 => ?_
  refine sc_seq fun K5 hK5 => ?_
  refine sc_text [3, 3] ?_
  refine sr_pu rfl (fun _ => rd_eq (ev_t rfl) ev_c) ?_
  refine sr_pu rfl (fun _ => rd_assign (ev_t rfl)) ?_
  refine sr_sub [(1, _, _), (2, _, _), (4, _, _), (5, _, _)] (sub_cons rfl (sub_cons rfl (sub_cons rfl (sub_cons rfl (sub_nil _))))) ?_
  refine sr_nil (hK5 _ _ ?_)
  refine' sc_or [(1, _, _), (2, _, _), (4, _, _)] (sub_cons rfl (sub_cons rfl (sub_cons rfl (sub_cons rfl (sub_nil _))))) rfl (fun hb1 => ?y1) (hK4 _ _ ?n1)
  case y1 =>
   refine sc_text [3, 3] ?_
   refine sr_pu rfl (fun _ => rd_eq (ev_t rfl) ev_c) ?_
   refine sr_pu rfl (fun _ => rd_assign (ev_t rfl)) ?_
   refine sr_sub [(5, _, _), (1, _, _), (2, _, _), (4, _, _)] (sub_cons rfl (sub_cons rfl (sub_cons rfl (sub_cons rfl (sub_nil _))))) ?_
   exact sr_nil (fun a ha => ⟨ha, rfl⟩)
  case n1 =>
   refine sc_cond (ev_t rfl) (fun h2 => ?_) (fun h2 => ?_)
   · (try simp only [bsimp] at h2)
     refine sc_seq fun K6 hK6 => ?_
     refine sc_text [0, 1, 3, 0, 1, 3, 3] ?_
     refine sr_rd rfl (rd_loads agg_api_Node (ev_t rfl) rfl (fun _ => B1.row)) ?_
     refine sr_pure rfl (rc_call go_r03_isStmt ev_f (args_cons (ev_t rfl) (args_nil)) rfl) (isstmt_ok t _ _ D _ (hk.grow g) ih hln) (fun w9 g9 => ?_)
     have g := g.trans (g9)
     replace B1 := B1.grow (g9)
     refine sr_pu rfl (fun _ => rd_move (ev_t rfl)) ?_
     refine sr_rdg rfl rfl rfl (rd_loads agg_api_Node (ev_t rfl) rfl (fun _ => B1.row)) ?_
     refine sr_pureg rfl rfl rfl (fun _ => (rc_call go_r03_isNone ev_f (args_cons (ev_u rfl id) (args_nil)) rfl)) (fun hc => none_ok _ _ _ _) (fun w12 g12 => ?_)
     have g := g.trans (g12)
     replace B1 := B1.grow (g12)
     refine sr_pu rfl (fun _ => rd_pick_or (ev_t rfl) (ev_u rfl id)) ?_
     refine sr_pu rfl (fun _ => rd_assign (ev_t rfl)) ?_
     refine sr_sub [(2, _, _)] (sub_cons rfl (sub_nil _)) ?_
     refine sr_nil (hK6 _ _ ?_)
     refine sc_ret (t_ret1 rfl rfl ?_)
     refine ⟨congrArg Value.bool ?_, g⟩
     unfold refComm; simp only [anyK, h2, cond_true, cond_false] <;> rfl
   (try simp only [bsimp] at h2)
   refine sc_seq fun K7 hK7 => ?_
   refine sc_text [3, 3] ?_
   refine sr_pu rfl (fun _ => rd_eq (ev_t rfl) ev_c) ?_
   refine sr_pu rfl (fun _ => rd_assign (ev_t rfl)) ?_
   refine sr_sub [(1, _, _), (2, _, _), (4, _, _), (14, _, _)] (sub_cons rfl (sub_cons rfl (sub_cons rfl (sub_cons rfl (sub_nil _))))) ?_
   refine sr_nil (hK7 _ _ ?_)
   refine sc_cond (ev_t rfl) (fun h3 => ?_) (fun h3 => ?_)
   · have hk3 : t.kind = 13 := by simpa using h3
     refine sc_seq fun K8 hK8 => ?_
     refine sc_text [0, 1, 3, 3, 0, 3, 3, 0, 3, 3, 3] ?_
     refine sr_rd rfl (rd_loads agg_api_Node (ev_t rfl) rfl (fun _ => B1.row)) ?_
     refine sr_pure rfl (rc_call go_r03_isStmt ev_f (args_cons (ev_t rfl) (args_nil)) rfl) (isstmt_ok t _ _ D _ (hk.grow g) ih hln) (fun w17 g17 => ?_)
     have g := g.trans (g17)
     replace B1 := B1.grow (g17)
     refine sr_pu rfl (fun _ => rd_move (ev_t rfl)) ?_
     refine sr_pug rfl rfl rfl (fun _ => rd_field fo_api_Node_4 (ev_t rfl)) ?_
     refine sr_rdg rfl rfl rfl (rd_load one_sl_api_Node (ev_u rfl id) (fun _ => B1.at_ rfl)) ?_
     refine sr_pug rfl rfl rfl (fun _ => rd_idxq el_sl_api_Node (ev_u rfl id) ev_c (fun hc => by have := stmt_k13 (.inl hk3) hc.2; omega) (fun hc => (h0x (by have := stmt_k13 (.inl hk3) hc.2; omega)).1)) ?_
     refine sr_pug rfl rfl rfl (fun _ => rd_field fo_api_Node_0 (ev_u rfl id)) ?_
     refine sr_rdg rfl rfl rfl (rd_load one_int (ev_u rfl id) (fun hc => ((h0x (by have := stmt_k13 (.inl hk3) hc.2; omega)).2.1.grow g) 0 _ rfl)) ?_
     refine sr_pug rfl rfl rfl (fun _ => rd_eq (ev_u rfl id) ev_c) ?_
     refine sr_pu rfl (fun _ => rd_pick_and (ev_t rfl) (ev_u rfl id)) ?_
     refine sr_pu rfl (fun _ => rd_assign (ev_t rfl)) ?_
     refine sr_sub [(2, _, _)] (sub_cons rfl (sub_nil _)) ?_
     refine sr_nil (hK8 _ _ ?_)
     refine sc_ret (t_ret1 rfl rfl ?_)
     refine ⟨congrArg Value.bool ?_, g⟩
     unfold refComm; simp only [anyK, h2, h3, cond_true, cond_false] <;> rfl
   (try simp only [bsimp] at h3)
   refine sc_seq fun K9 hK9 => ?_
   refine sc_text [3, 3] ?_
   refine sr_pu rfl (fun _ => rd_eq (ev_t rfl) ev_c) ?_
   refine sr_pu rfl (fun _ => rd_assign (ev_t rfl)) ?_
   refine sr_sub [(1, _, _), (2, _, _), (4, _, _), (26, _, _)] (sub_cons rfl (sub_cons rfl (sub_cons rfl (sub_cons rfl (sub_nil _))))) ?_
   refine sr_nil (hK9 _ _ ?_)
   refine sc_cond (ev_t rfl) (fun h4 => ?_) (fun h4 => ?_)
   · have hk4 : t.kind = 12 := by simpa using h4
     refine sc_seq fun K10 hK10 => ?_
     refine sc_text [0, 1, 3, 3, 0, 3, 3, 0, 3, 3, 3] ?_
     refine sr_rd rfl (rd_loads agg_api_Node (ev_t rfl) rfl (fun _ => B1.row)) ?_
     refine sr_pure rfl (rc_call go_r03_isStmt ev_f (args_cons (ev_t rfl) (args_nil)) rfl) (isstmt_ok t _ _ D _ (hk.grow g) ih hln) (fun w29 g29 => ?_)
     have g := g.trans (g29)
     replace B1 := B1.grow (g29)
     refine sr_pu rfl (fun _ => rd_move (ev_t rfl)) ?_
     refine sr_pug rfl rfl rfl (fun _ => rd_field fo_api_Node_4 (ev_t rfl)) ?_
     refine sr_rdg rfl rfl rfl (rd_load one_sl_api_Node (ev_u rfl id) (fun _ => B1.at_ rfl)) ?_
     refine sr_pug rfl rfl rfl (fun _ => rd_idxq el_sl_api_Node (ev_u rfl id) ev_c (fun hc => by have := stmt_k12 hk4 hc.2; omega) (fun hc => (h1x (by have := stmt_k12 hk4 hc.2; omega)).1)) ?_
     refine sr_pug rfl rfl rfl (fun _ => rd_field fo_api_Node_0 (ev_u rfl id)) ?_
     refine sr_rdg rfl rfl rfl (rd_load one_int (ev_u rfl id) (fun hc => ((h1x (by have := stmt_k12 hk4 hc.2; omega)).2.1.grow g) 0 _ rfl)) ?_
     refine sr_pug rfl rfl rfl (fun _ => rd_eq (ev_u rfl id) ev_c) ?_
     refine sr_pu rfl (fun _ => rd_pick_and (ev_t rfl) (ev_u rfl id)) ?_
     refine sr_pu rfl (fun _ => rd_assign (ev_t rfl)) ?_
     refine sr_sub [(2, _, _)] (sub_cons rfl (sub_nil _)) ?_
     refine sr_nil (hK10 _ _ ?_)
     refine sc_ret (t_ret1 rfl rfl ?_)
     refine ⟨congrArg Value.bool ?_, g⟩
     unfold refComm; simp only [anyK, h2, h3, h4, cond_true, cond_false] <;> rfl
   (try simp only [bsimp] at h4)
   refine sc_seq fun K11 hK11 => ?_
   refine sc_text [3, 3] ?_
   refine sr_pu rfl (fun _ => rd_eq (ev_t rfl) ev_c) ?_
   refine sr_pu rfl (fun _ => rd_assign (ev_t rfl)) ?_
   refine sr_sub [(1, _, _), (2, _, _), (38, _, _)] (sub_cons rfl (sub_cons rfl (sub_cons rfl (sub_nil _)))) ?_
   refine sr_nil (hK11 _ _ ?_)
   refine sc_cond (ev_t rfl) (fun h5 => ?_) (fun h5 => ?_)
   · have hk5 : t.kind = 11 := by simpa using h5
     refine sc_seq fun K12 hK12 => ?_
     refine sc_text [0, 1, 3, 3, 0, 3, 3, 0, 3, 3, 3] ?_
     refine sr_rd rfl (rd_loads agg_api_Node (ev_t rfl) rfl (fun _ => B1.row)) ?_
     refine sr_pure rfl (rc_call go_r03_isStmt ev_f (args_cons (ev_t rfl) (args_nil)) rfl) (isstmt_ok t _ _ D _ (hk.grow g) ih hln) (fun w41 g41 => ?_)
     have g := g.trans (g41)
     replace B1 := B1.grow (g41)
     refine sr_pu rfl (fun _ => rd_move (ev_t rfl)) ?_
     refine sr_pug rfl rfl rfl (fun _ => rd_field fo_api_Node_4 (ev_t rfl)) ?_
     refine sr_rdg rfl rfl rfl (rd_load one_sl_api_Node (ev_u rfl id) (fun _ => B1.at_ rfl)) ?_
     refine sr_pug rfl rfl rfl (fun _ => rd_idxq el_sl_api_Node (ev_u rfl id) ev_c (fun hc => by have := stmt_k13 (.inr hk5) hc.2; omega) (fun hc => (h0x (by have := stmt_k13 (.inr hk5) hc.2; omega)).1)) ?_
     refine sr_pug rfl rfl rfl (fun _ => rd_field fo_api_Node_0 (ev_u rfl id)) ?_
     refine sr_rdg rfl rfl rfl (rd_load one_int (ev_u rfl id) (fun hc => ((h0x (by have := stmt_k13 (.inr hk5) hc.2; omega)).2.1.grow g) 0 _ rfl)) ?_
     refine sr_pug rfl rfl rfl (fun _ => rd_eq (ev_u rfl id) ev_c) ?_
     refine sr_pu rfl (fun _ => rd_pick_and (ev_t rfl) (ev_u rfl id)) ?_
     refine sr_pu rfl (fun _ => rd_assign (ev_t rfl)) ?_
     refine sr_sub [(2, _, _)] (sub_cons rfl (sub_nil _)) ?_
     refine sr_nil (hK12 _ _ ?_)
     refine sc_ret (t_ret1 rfl rfl ?_)
     refine ⟨congrArg Value.bool ?_, g⟩
     unfold refComm; simp only [anyK, h2, h3, h4, h5, cond_true, cond_false] <;> rfl
   (try simp only [bsimp] at h5)
   refine sc_skip (hK2 _ _ ?_)
   refine sc_sub [(2, _, _)] (sub_cons rfl (sub_nil _)) ?_
   refine sc_seq fun K13 hK13 => ?_
   refine sc_text [3] ?_
   refine sr_pu rfl (fun _ => rd_assign ev_c) ?_
   refine sr_nil (hK13 _ _ ?_)
   refine sc_ret (t_ret1 rfl rfl ?_)
   refine ⟨congrArg Value.bool ?_, g⟩
   unfold refComm; simp only [anyK, h2, h3, h4, h5, cond_true, cond_false] <;> rfl
theorem rok_all : ∀ n t, count t ≤ n → n ≤ 1000000 → ROk t := by
  intro n
  induction n with
  | zero => intro t h; have := count_pos t; omega
  | succ n ihn =>
    intro t h hn
    have ih : Below t := fun k hk => ihn k (by omega) (by omega)
    have hln : t.kids.length ≤ 1000000 := by have := kids_le t; omega
    exact ⟨fun p c D w hk => isexpr_ok t p c D w hk ih hln, fun p c D w hk => isblock_ok t p c D w hk ih hln, fun p c D w hk => isstmt_ok t p c D w hk ih hln, fun p c D w hk => isif_ok t p c D w hk ih, fun p c D w hk => iscomm_ok t p c D w hk ih hln⟩
theorem rok (t : Nd) (h : count t ≤ 1000000) : ROk t := rok_all _ t h (Nat.le_refl _)
end Go.Rk
namespace Go.Rk
open Go Go.RowKit
set_option linter.unusedVariables false
section
variable {P : Program} {n : Nat} {σ : List Ent} {c : Prop} {wb : World} {ty : TypeId}
theorem rd_max {x y : Operand} {k k' : IntKind} {a b : Int} {ts : Array TypeId} (h : Ev n σ c x (.int k a)) (h' : Ev n σ c y (.int k' b)) : Rd P n σ c wb (.call { callee := .builtin .max, args := #[x, y], argTypes := ts }) ty (.int k (if b > a then b else a)) := fun d pos after gd a ha hc w1 _ => by
  simp [execOp, resolve, invoke, builtin, h a ha hc, h' a ha hc, Builtin.max_, Builtin.max2]
end
theorem max_nat (a b : Nat) : (if (b : Int) > a then (b : Int) else a) = ((max a b : Nat) : Int) := by split <;> omega
end Go.Rk
namespace Go.Rk
open Go Go.RowKit
def fieldB (t : Nd) : Bool := decide (t.kind = 3) && permF t
theorem fieldB_not (t : Nd) : (!fieldB t) = (((!decide (t.kind = 3) || !nameB t.text) || !lenK t 1) || !isTypeB (kidAt t 0)) := by
  have e : fieldB t = (((decide (t.kind = 3) && nameB t.text) && lenK t 1) && isTypeB (kidAt t 0)) := by
    rw [fieldB]
    by_cases h : t.kind = 3
    · rw [permF_eq, locB, textB', formB, h, isTypeB_eq]; exact congrArg (true && ·) (fl1 (X := nameB t.text) (q := typK)).symm |>.trans (by rfl)
    · rw [decide_eq_false h]; rfl
  rw [e]
  cases decide (t.kind = 3) <;> cases nameB t.text <;> cases lenK t 1 <;> cases isTypeB (kidAt t 0) <;> rfl
def declB (t : Nd) : Bool := (memK [2, 6, 4] t.kind && permF t) && !fileVarB t
def refDecl (t : Nd) : Bool :=
  bif decide (t.kind = 2) then nameB t.text && t.kids.all fieldB
  else bif decide (t.kind = 6) then varB t && noneB (kidAt t 1)
  else bif decide (t.kind = 4) then
    bif !nameB t.text || !lenK t 3 then false else (((decide ((kidAt t 0).kind = 5) && plainB (kidAt t 0)) && (kidAt t 0).kids.all fieldB) && (noneB (kidAt t 1) || isTypeB (kidAt t 1))) && blockB (kidAt t 2)
  else false
theorem all_field {t : Nd} : (everyB t (memK [3]) && t.kids.all permF) = t.kids.all fieldB := by
  rw [every_all]; congr 1; funext k; rw [memK_one]; rfl
theorem params_eq (t : Nd) : ((decide (t.kind = 5) && plainB t) && t.kids.all fieldB) = (memK [5] t.kind && permF t) := by
  rw [memK_one]
  by_cases h : t.kind = 5
  · rw [permF_eq t, locB, textB', formB, h, Bool.and_assoc]; exact congrArg (true && ·) (by rw [← all_field, ← Bool.and_assoc]; rfl)
  · rw [decide_eq_false h]; rfl
theorem refDecl_eq (t : Nd) : refDecl t = declB t := by
  rw [refDecl, declB]
  by_cases h : t.kind = 2
  · rw [permF_eq t, locB, textB', formB, fileVarB, h]
    refine Eq.trans (b := (nameB t.text && everyB t (memK [3])) && t.kids.all permF) ?_ (Eq.trans (Bool.and_true _).symm rfl)
    rw [Bool.and_assoc (nameB t.text) (everyB t _), all_field]; rfl
  by_cases h1 : t.kind = 6
  · rw [varB, fileVarB, h1]
    refine Eq.trans (b := permF t && noneB (kidAt t 1)) rfl (Eq.trans (b := permF t && !(!lenK t 2 || !decide ((kidAt t 1).kind = 9))) ?_ rfl)
    rw [noneB_eq]
    cases hp : permF t with
    | false => rfl
    | true =>
      have hl := perm_len2 (.inr h1) hp
      have hk : permF (kidAt t 1) = true := by
        rw [permF_eq, Bool.and_eq_true, List.all_eq_true] at hp
        rw [kidAt_eq (by omega)]; exact hp.2 _ (List.getElem_mem _)
      rw [hk, show lenK t 2 = true by rw [lenK, decide_eq_true_eq]; omega]
      cases decide ((kidAt t 1).kind = 9) <;> rfl
  by_cases h2 : t.kind = 4
  · rw [params_eq, permF_eq t, locB, textB', formB, fileVarB, h2]
    refine Eq.trans (b := bif !nameB t.text || !lenK t 3 then false else ((memK [5] (kidAt t 0).kind && permF (kidAt t 0)) && (noneB (kidAt t 1) || isTypeB (kidAt t 1))) && blockB (kidAt t 2)) rfl (Eq.trans (b := (nameB t.text && kidsB t [memK [5], fun k => typK k || memK [9] k, memK [10]]) && t.kids.all permF) ?_ (Eq.trans (Bool.and_true _).symm rfl))
    rw [not_if2, Bool.and_assoc (nameB t.text) (kidsB t _), kids_3, noneB_eq, isTypeB_eq, or_two, blockB, memK_one 9, memK_one 10]
    ac_rfl
  simp only [memK, List.mem_cons, List.not_mem_nil, h, h1, h2, decide_false, or_false, cond_false, Bool.false_and]
theorem fields_ok (l : List Nd) (p : Option Addr) (c : Nat) (D : Nat → Prop) (w : World) (hk : Kd w D l (.slice p l.length c)) (hln : l.length ≤ 1000000) : Ret PP fn_r03_fields #[.slice p l.length c] w fun r w' => r = .bool (l.all fieldB) ∧ G w w' := by
  have g := G.refl w
  obtain ⟨p', c', hpe, _, hks⟩ := hk
  injection hpe with hpe _ hce
  subst hpe hce
  refine ret_of_sc (m := 45) func_r03_fields rfl rfl [(0, True, _)] (sub_cons rfl (sub_nil _)) ?_
  refine sc_seq fun K1 hK1 => ?_
  refine sc_text [3] ?_
  refine sr_pu rfl (fun _ => rd_assign ev_c) ?_
  refine sr_nil (hK1 _ _ ?_)
  refine sc_seq fun K2 hK2 => ?_
  refine sc_seq fun K3 hK3 => ?_
  refine sc_text [3] ?_
  refine sr_pu rfl (fun _ => rd_assign ev_c) ?_
  refine sr_nil (hK3 _ _ ?_)
  refine sc_block ?_
  refine sc_loop2 (fun (i : Nat) u1 => (i ≤ l.length ∧ ∀ j, (h : j < l.length) → j < i → fieldB l[j] = true) ∧ G w u1) [(0, True, _)] (fun (i : Nat) => [(3, True, .int .i64 i)]) (fun (i : Nat) => l.length - i) (0) ⟨⟨Nat.zero_le _, fun j _ hj => absurd hj (Nat.not_lt_zero j)⟩, G.refl _⟩ (sub_cons rfl (sub_cons rfl (sub_nil _))) ?_
  rintro i u1 ⟨hI1, gl1⟩
  have g := g.trans gl1
  refine sc_seq fun K4 hK4 => ?_
  refine sc_seq fun K5 hK5 => ?_
  refine sc_text [3, 3, 3, 3] ?_
  refine sr_pu rfl (fun _ => rd_move (ev_t rfl)) ?_
  refine sr_pu rfl (fun _ => rd_move (ev_t rfl)) ?_
  refine sr_pu rfl (fun _ => rd_len el_sl_api_Node (ev_t rfl)) ?_
  refine sr_pu rfl (fun _ => rd_lt (ev_t rfl) (ev_t rfl)) ?_
  refine sr_sub [(0, _, _), (3, _, _), (7, _, _)] (sub_cons rfl (sub_cons rfl (sub_cons rfl (sub_nil _)))) ?_
  refine sr_nil (hK5 _ _ ?_)
  refine sc_cond (ev_t rfl) (fun h1 => ?_) (fun h1 => ?_)
  · replace h1 : i < l.length := by simp only [decide_eq_true_eq] at h1; omega
    obtain ⟨b, o, rfl, hD, xs, hR, hX⟩ := hks (by omega)
    obtain ⟨p', c', hcell, hkid⟩ := kd_at hR hX h1
    obtain ⟨p3, c3, h0x⟩ := kd_optx hkid 0
    refine sc_skip (hK4 _ _ ?_)
    refine sc_sub [(0, _, _), (3, _, _)] (sub_cons rfl (sub_cons rfl (sub_nil _))) ?_
    refine sc_seq fun K6 hK6 => ?_
    refine sc_block ?_
    refine sc_seq fun K7 hK7 => ?_
    refine sc_text [3, 3, 3, 3, 0, 3, 3, 3, 3, 3, 3, 0, 1, 3, 3, 3, 3, 3, 3, 3, 0, 3, 3, 3, 3, 3, 3, 3, 3, 0, 3, 0, 1, 3, 3] ?_
    refine sr_pu rfl (fun _ => rd_move (ev_t rfl)) ?_
    refine sr_pu rfl (fun _ => rd_move (ev_t rfl)) ?_
    refine sr_pu rfl (fun _ => rd_idx el_sl_api_Node (ev_t rfl) (ev_t rfl) (fun _ => by omega)) ?_
    refine sr_pu rfl (fun _ => rd_field fo_api_Node_0 (ev_t rfl)) ?_
    refine sr_rd rfl (rd_load one_int (ev_t rfl) (fun _ => (hcell.grow g) 0 _ rfl)) ?_
    refine sr_pu rfl (fun _ => rd_ne (ev_t rfl) ev_c) ?_
    refine sr_pu rfl (fun _ => rd_move (ev_t rfl)) ?_
    refine sr_pug rfl rfl rfl (fun _ => rd_move (ev_t rfl)) ?_
    refine sr_pug rfl rfl rfl (fun _ => rd_move (ev_t rfl)) ?_
    refine sr_pug rfl rfl rfl (fun _ => rd_idx el_sl_api_Node (ev_u rfl id) (ev_u rfl id) (fun _ => by omega)) ?_
    refine sr_pug rfl rfl rfl (fun _ => rd_field fo_api_Node_1 (ev_u rfl id)) ?_
    refine sr_rdg rfl rfl rfl (rd_load one_string (ev_u rfl id) (fun _ => (hcell.grow g) 1 _ rfl)) ?_
    refine sr_pureg rfl rfl rfl (fun _ => (rc_call go_r02_Name ev_f (args_cons (ev_u rfl id) (args_nil)) rfl)) (fun hc => rname_ok _ _) (fun w22 g22 => ?_)
    have g := g.trans (g22)
    try have gl1 := gl1.trans (g22)
    refine sr_pug rfl rfl rfl (fun _ => rd_not (ev_u rfl id)) ?_
    refine sr_pu rfl (fun _ => rd_pick_or (ev_t rfl) (ev_u rfl id)) ?_
    refine sr_pu rfl (fun _ => rd_move (ev_t rfl)) ?_
    refine sr_pug rfl rfl rfl (fun _ => rd_move (ev_t rfl)) ?_
    refine sr_pug rfl rfl rfl (fun _ => rd_move (ev_t rfl)) ?_
    refine sr_pug rfl rfl rfl (fun _ => rd_idx el_sl_api_Node (ev_u rfl id) (ev_u rfl id) (fun _ => by omega)) ?_
    refine sr_pug rfl rfl rfl (fun _ => rd_field fo_api_Node_4 (ev_u rfl id)) ?_
    refine sr_rdg rfl rfl rfl (rd_load one_sl_api_Node (ev_u rfl id) (fun _ => (hcell.grow g) 4 _ rfl)) ?_
    refine sr_pug rfl rfl rfl (fun _ => rd_len el_sl_api_Node (ev_u rfl id)) ?_
    refine sr_pug rfl rfl rfl (fun _ => rd_ne (ev_u rfl id) ev_c) ?_
    refine sr_pu rfl (fun _ => rd_pick_or (ev_t rfl) (ev_u rfl id)) ?_
    refine sr_pu rfl (fun _ => rd_move (ev_t rfl)) ?_
    refine sr_pug rfl rfl rfl (fun _ => rd_move (ev_t rfl)) ?_
    refine sr_pug rfl rfl rfl (fun _ => rd_move (ev_t rfl)) ?_
    refine sr_pug rfl rfl rfl (fun _ => rd_idx el_sl_api_Node (ev_u rfl id) (ev_u rfl id) (fun _ => by omega)) ?_
    refine sr_pug rfl rfl rfl (fun _ => rd_field fo_api_Node_4 (ev_u rfl id)) ?_
    refine sr_rdg rfl rfl rfl (rd_load one_sl_api_Node (ev_u rfl id) (fun _ => (hcell.grow g) 4 _ rfl)) ?_
    refine sr_pug rfl rfl rfl (fun _ => rd_idxq el_sl_api_Node (ev_u rfl id) ev_c (fun hc => by (have hz := hc.2; first | (unfold lenK at hz; simp at hz; omega) | (simp at hz; omega))) (fun hc => (h0x (by (have hz := hc.2; first | (unfold lenK at hz; simp at hz; omega) | (simp at hz; omega)))).1)) ?_
    refine sr_rdg rfl rfl rfl (rd_loads agg_api_Node (ev_u rfl id) rfl (fun hc => (h0x (by (have hz := hc.2; first | (unfold lenK at hz; simp at hz; omega) | (simp at hz; omega)))).2.1.grow g)) ?_
    refine sr_pureg rfl rfl rfl (fun _ => (rc_call go_r03_IsType ev_f (args_cons (ev_u rfl id) (args_nil)) rfl)) (fun hc => istype_ok _ _ _ _) (fun w42 g42 => ?_)
    have g := g.trans (g42)
    try have gl1 := gl1.trans (g42)
    refine sr_pug rfl rfl rfl (fun _ => rd_not (ev_u rfl id)) ?_
    refine sr_pu rfl (fun _ => rd_pick_or (ev_t rfl) (ev_u rfl id)) ?_
    refine sr_sub [(0, _, _), (3, _, _), (44, _, _)] (sub_cons rfl (sub_cons rfl (sub_cons rfl (sub_nil _)))) ?_
    refine sr_nil (hK7 _ _ ?_)
    refine sc_cond (ev_t rfl) (fun h2 => ?_) (fun h2 => ?_)
    · replace h2 : fieldB l[i] = false := by simpa using (fieldB_not _).trans h2
      refine sc_seq fun K8 hK8 => ?_
      refine sc_text [3] ?_
      refine sr_pu rfl (fun _ => rd_assign ev_c) ?_
      refine sr_sub [(0, _, _), (2, _, _), (3, _, _)] (sub_cons rfl (sub_cons rfl (sub_cons rfl (sub_nil _)))) ?_
      refine sr_nil (hK8 _ _ ?_)
      refine sc_ret (t_ret1 rfl rfl ?_)
      refine ⟨congrArg Value.bool ?_, g⟩
      rw [eq_comm, List.all_eq_false]
      exact ⟨_, List.getElem_mem h1, by rw [h2]; simp⟩
    replace h2 : fieldB l[i] = true := by simpa using (fieldB_not _).trans h2
    refine sc_skip (hK6 _ _ ?_)
    refine sc_sub [(0, _, _), (3, _, _)] (sub_cons rfl (sub_cons rfl (sub_nil _))) ?_
    refine sc_text [3, 3, 3] ?_
    refine sr_pu rfl (fun _ => rd_move (ev_t rfl)) ?_
    refine sr_pu rfl (fun _ => rd_add (ev_t rfl) ev_c (fun _ => by omega)) ?_
    refine sr_pu rfl (fun _ => rd_assign (ev_t rfl)) ?_
    refine sr_sub [(3, _, _), (0, _, _)] (sub_cons rfl (sub_cons rfl (sub_nil _))) ?_
    refine sr_nil (fun a ha => ?_)
    refine ⟨i + 1, ha, ⟨⟨h1, fun j h hj => ?_⟩, gl1⟩, by omega⟩
    by_cases e : j = i
    · subst e; exact h2
    · exact hI1.2 j h (by omega)
  (try simp only [bsimp] at h1)
  refine sc_exit rfl (hK2 _ _ ?_)
  refine sc_sub [] (sub_nil _) ?_
  refine sc_seq fun K9 hK9 => ?_
  refine sc_text [3] ?_
  refine sr_pu rfl (fun _ => rd_assign ev_c) ?_
  refine sr_nil (hK9 _ _ ?_)
  refine sc_ret (t_ret1 rfl rfl ?_)
  refine ⟨congrArg Value.bool ?_, g⟩
  rw [eq_comm, List.all_eq_true]
  intro x hx
  obtain ⟨j, hj, rfl⟩ := List.getElem_of_mem hx
  exact hI1.2 j hj (by simp only [decide_eq_false_iff_not] at h1; omega)
theorem isdecl_ok (t : Nd) (p : Option Addr) (c : Nat) (D : Nat → Prop) (w : World) (hk : Kd w D t.kids (.slice p t.kids.length c)) (hcn : count t ≤ 1000000) : Ret PP fn_r03_isDecl #[ndV t (.slice p t.kids.length c)] w fun r w' => r = .bool (declB t) ∧ G w w' := by
  rw [← refDecl_eq]
  have g := G.refl w
  have hln := kids_le t
  have ih : Below t := fun k hk => rok k (by omega)
  obtain ⟨p1, c1, h1x⟩ := kd_ih hk ih 1
  refine ret_of_sc (m := 77) func_r03_isDecl rfl rfl [(0, True, _)] (sub_cons rfl (sub_nil _)) ?_
  refine sc_seq fun K1 hK1 => ?_
  refine sc_text [1, 3] ?_
  refine sr_box rfl (ev_t rfl) rfl ?_
  intro b1 w1 N1
  have l1 := N1.ge g
  have g := g.trans (N1.g)
  have B1 := N1.blk
  refine sr_pu rfl (fun _ => rd_assign ev_c) ?_
  refine sr_sub [(1, _, _), (2, _, _)] (sub_cons rfl (sub_cons rfl (sub_nil _))) ?_
  refine sr_nil (hK1 _ _ ?_)
  refine sc_seq fun K2 hK2 => ?_
  refine sc_seq fun K3 hK3 => ?_
  refine sc_text [3, 0] ?_
  refine sr_pu rfl (fun _ => rd_field fo_api_Node_0 (ev_t rfl)) ?_
  refine sr_rd rfl (rd_load one_int (ev_t rfl) (fun _ => B1.at_ rfl)) ?_
  refine sr_sub [(1, _, _), (2, _, _), (5, _, _)] (sub_cons rfl (sub_cons rfl (sub_cons rfl (sub_nil _)))) ?_
  refine sr_nil (hK3 _ _ ?_)
  refine sc_block ?_
  refine sc_seq fun K4 hK4 => ?_
  refine sc_text [3, 3] ?_
  refine sr_pu rfl (fun _ => rd_eq (ev_t rfl) ev_c) ?_
  refine sr_pu rfl (fun _ => rd_assign (ev_t rfl)) ?_
  refine sr_sub [(1, _, _), (2, _, _), (5, _, _), (6, _, _)] (sub_cons rfl (sub_cons rfl (sub_cons rfl (sub_cons rfl (sub_nil _))))) ?_
  refine sr_nil (hK4 _ _ ?_)
  refine sc_cond (ev_t rfl) (fun h1 => ?_) (fun h1 => ?_)
  · (try simp only [bsimp] at h1)
    refine sc_seq fun K5 hK5 => ?_
    refine sc_text [3, 0, 1, 3, 3, 0, 1, 3, 3] ?_
    refine sr_pu rfl (fun _ => rd_field fo_api_Node_1 (ev_t rfl)) ?_
    refine sr_rd rfl (rd_load one_string (ev_t rfl) (fun _ => B1.at_ rfl)) ?_
    refine sr_pure rfl (rc_call go_r02_Name ev_f (args_cons (ev_t rfl) (args_nil)) rfl) (rname_ok _ _) (fun w10 g10 => ?_)
    have g := g.trans (g10)
    replace B1 := B1.grow (g10)
    refine sr_pu rfl (fun _ => rd_move (ev_t rfl)) ?_
    refine sr_pug rfl rfl rfl (fun _ => rd_field fo_api_Node_4 (ev_t rfl)) ?_
    refine sr_rdg rfl rfl rfl (rd_load one_sl_api_Node (ev_u rfl id) (fun _ => B1.at_ rfl)) ?_
    refine sr_pureg rfl rfl rfl (fun _ => (rc_call go_r03_fields ev_f (args_cons (ev_u rfl id) (args_nil)) rfl)) (fun hc => fields_ok _ _ _ D _ (hk.grow g) (by omega)) (fun w14 g14 => ?_)
    have g := g.trans (g14)
    replace B1 := B1.grow (g14)
    refine sr_pu rfl (fun _ => rd_pick_and (ev_t rfl) (ev_u rfl id)) ?_
    refine sr_pu rfl (fun _ => rd_assign (ev_t rfl)) ?_
    refine sr_sub [(2, _, _)] (sub_cons rfl (sub_nil _)) ?_
    refine sr_nil (hK5 _ _ ?_)
    refine sc_ret (t_ret1 rfl rfl ?_)
    refine ⟨congrArg Value.bool ?_, g⟩
    unfold refDecl; simp only [h1, cond_true, cond_false] <;> rfl
  (try simp only [bsimp] at h1)
  refine sc_seq fun K6 hK6 => ?_
  refine sc_text [3, 3] ?_
  refine sr_pu rfl (fun _ => rd_eq (ev_t rfl) ev_c) ?_
  refine sr_pu rfl (fun _ => rd_assign (ev_t rfl)) ?_
  refine sr_sub [(1, _, _), (2, _, _), (5, _, _), (16, _, _)] (sub_cons rfl (sub_cons rfl (sub_cons rfl (sub_cons rfl (sub_nil _))))) ?_
  refine sr_nil (hK6 _ _ ?_)
  refine sc_cond (ev_t rfl) (fun h2 => ?_) (fun h2 => ?_)
  · have hk2 : t.kind = 6 := by simpa using h2
    refine sc_seq fun K7 hK7 => ?_
    refine sc_text [0, 1, 3, 3, 0, 3, 0, 1, 3, 3] ?_
    refine sr_rd rfl (rd_loads agg_api_Node (ev_t rfl) rfl (fun _ => B1.row)) ?_
    refine sr_pure rfl (rc_call go_r03_isVar ev_f (args_cons (ev_t rfl) (args_nil)) rfl) (isvar_ok t _ _ D _ (hk.grow g) ih) (fun w19 g19 => ?_)
    have g := g.trans (g19)
    replace B1 := B1.grow (g19)
    refine sr_pu rfl (fun _ => rd_move (ev_t rfl)) ?_
    refine sr_pug rfl rfl rfl (fun _ => rd_field fo_api_Node_4 (ev_t rfl)) ?_
    refine sr_rdg rfl rfl rfl (rd_load one_sl_api_Node (ev_u rfl id) (fun _ => B1.at_ rfl)) ?_
    refine sr_pug rfl rfl rfl (fun _ => rd_idxq el_sl_api_Node (ev_u rfl id) ev_c (fun hc => by have := perm_len2 (.inr hk2) (Bool.and_eq_true_iff.1 hc.2).2; omega) (fun hc => (h1x (by have := perm_len2 (.inr hk2) (Bool.and_eq_true_iff.1 hc.2).2; omega)).1)) ?_
    refine sr_rdg rfl rfl rfl (rd_loads agg_api_Node (ev_u rfl id) rfl (fun hc => (h1x (by have := perm_len2 (.inr hk2) (Bool.and_eq_true_iff.1 hc.2).2; omega)).2.1.grow g)) ?_
    refine sr_pureg rfl rfl rfl (fun _ => (rc_call go_r03_isNone ev_f (args_cons (ev_u rfl id) (args_nil)) rfl)) (fun hc => none_ok _ _ _ _) (fun w25 g25 => ?_)
    have g := g.trans (g25)
    replace B1 := B1.grow (g25)
    refine sr_pu rfl (fun _ => rd_pick_and (ev_t rfl) (ev_u rfl id)) ?_
    refine sr_pu rfl (fun _ => rd_assign (ev_t rfl)) ?_
    refine sr_sub [(2, _, _)] (sub_cons rfl (sub_nil _)) ?_
    refine sr_nil (hK7 _ _ ?_)
    refine sc_ret (t_ret1 rfl rfl ?_)
    refine ⟨congrArg Value.bool ?_, g⟩
    unfold refDecl; simp only [h1, h2, cond_true, cond_false] <;> rfl
  (try simp only [bsimp] at h2)
  refine sc_seq fun K8 hK8 => ?_
  refine sc_text [3, 3] ?_
  refine sr_pu rfl (fun _ => rd_eq (ev_t rfl) ev_c) ?_
  refine sr_pu rfl (fun _ => rd_assign (ev_t rfl)) ?_
  refine sr_sub [(1, _, _), (2, _, _), (27, _, _)] (sub_cons rfl (sub_cons rfl (sub_cons rfl (sub_nil _)))) ?_
  refine sr_nil (hK8 _ _ ?_)
  refine sc_cond (ev_t rfl) (fun h3 => ?_) (fun h3 => ?_)
  · (try simp only [bsimp] at h3)
    refine sc_seq fun K9 hK9 => ?_
    refine sc_seq fun K10 hK10 => ?_
    refine sc_text [3, 0, 1, 3, 3, 3, 0, 3, 3, 3] ?_
    refine sr_pu rfl (fun _ => rd_field fo_api_Node_1 (ev_t rfl)) ?_
    refine sr_rd rfl (rd_load one_string (ev_t rfl) (fun _ => B1.at_ rfl)) ?_
    refine sr_pure rfl (rc_call go_r02_Name ev_f (args_cons (ev_t rfl) (args_nil)) rfl) (rname_ok _ _) (fun w31 g31 => ?_)
    have g := g.trans (g31)
    replace B1 := B1.grow (g31)
    refine sr_pu rfl (fun _ => rd_not (ev_t rfl)) ?_
    refine sr_pu rfl (fun _ => rd_move (ev_t rfl)) ?_
    refine sr_pug rfl rfl rfl (fun _ => rd_field fo_api_Node_4 (ev_t rfl)) ?_
    refine sr_rdg rfl rfl rfl (rd_load one_sl_api_Node (ev_u rfl id) (fun _ => B1.at_ rfl)) ?_
    refine sr_pug rfl rfl rfl (fun _ => rd_len el_sl_api_Node (ev_u rfl id)) ?_
    refine sr_pug rfl rfl rfl (fun _ => rd_ne (ev_u rfl id) ev_c) ?_
    refine sr_pu rfl (fun _ => rd_pick_or (ev_t rfl) (ev_u rfl id)) ?_
    refine sr_sub [(1, _, _), (2, _, _), (38, _, _)] (sub_cons rfl (sub_cons rfl (sub_cons rfl (sub_nil _)))) ?_
    refine sr_nil (hK10 _ _ ?_)
    refine sc_cond (ev_t rfl) (fun h4 => ?_) (fun h4 => ?_)
    · replace h4 : (!nameB t.text || !lenK t 3) = true := h4
      refine sc_seq fun K11 hK11 => ?_
      refine sc_text [3] ?_
      refine sr_pu rfl (fun _ => rd_assign ev_c) ?_
      refine sr_sub [(1, _, _), (2, _, _)] (sub_cons rfl (sub_cons rfl (sub_nil _))) ?_
      refine sr_nil (hK11 _ _ ?_)
      refine sc_ret (t_ret1 rfl rfl ?_)
      refine ⟨congrArg Value.bool ?_, g⟩
      unfold refDecl; simp only [h1, h2, h3, h4, cond_true, cond_false] <;> rfl
    replace h4 : (!nameB t.text || !lenK t 3) = false := h4
    have hl3 : t.kids.length = 3 := by simp only [lenK, Bool.or_eq_false_iff, Bool.not_eq_false', decide_eq_true_eq] at h4; omega
    obtain ⟨hpe, p0, c0, hcell0, hkid0⟩ := kd_opt hk (i := 0) (by omega)
    obtain ⟨_, p2, c2, hcell2, hkid2⟩ := kd_opt hk (i := 2) (by omega)
    obtain ⟨_, hcell1, hkid1, hr1⟩ := h1x (by omega)
    have hr2 := ih.kid (i := 2) (by omega)
    have hkl0 := kidAt_len hcn 0
    refine sc_skip (hK9 _ _ ?_)
    refine sc_sub [(1, _, _), (2, _, _)] (sub_cons rfl (sub_cons rfl (sub_nil _))) ?_
    refine sc_seq fun K12 hK12 => ?_
    refine sc_text [3, 0, 3, 0, 1, 2] ?_
    refine sr_pu rfl (fun _ => rd_field fo_api_Node_4 (ev_t rfl)) ?_
    refine sr_rd rfl (rd_load one_sl_api_Node (ev_t rfl) (fun _ => B1.at_ rfl)) ?_
    refine sr_pu rfl (fun _ => rd_idxq el_sl_api_Node (ev_t rfl) ev_c (fun _ => by omega) (fun _ => hpe)) ?_
    refine sr_rd rfl (rd_loads agg_api_Node (ev_t rfl) rfl (fun _ => hcell0.grow g)) ?_
    refine sr_alloc rfl ze_api_Node rfl ?_
    intro b3 w3 N3
    have x3_1 := N3.ne B1
    have l3 := N3.ge g
    have g := g.trans (N3.g)
    replace B1 := B1.grow (N3.g)
    have B3 := N3.blk
    refine sr_store_all rfl sz_api_Node (ev_t rfl) (ev_t rfl) rfl rfl B3 rfl rfl ?_
    intro wS1 hgS1 hzS1
    clear B3
    intro B3
    replace B1 := B1.keep hgS1 (by intro h; injection h with h; first | exact x3_1 h.symm | exact x1_3 h | omega)
    have g := g_only g hgS1 (by intro k hk; injection hk with hk; omega)
    refine sr_sub [(1, _, _), (2, _, _), (3, _, _)] (sub_cons rfl (sub_cons rfl (sub_cons rfl (sub_nil _)))) ?_
    refine sr_nil (hK12 _ _ ?_)
    refine sc_seq fun K13 hK13 => ?_
    refine sc_text [3, 0, 3, 3, 3, 0, 3, 3, 3, 3, 0, 1, 3, 3, 3, 0, 3, 0, 1, 3, 3, 0, 3, 0, 1, 3, 3, 3, 3, 0, 3, 0, 1, 3, 3] ?_
    refine sr_pu rfl (fun _ => rd_field fo_api_Node_0 (ev_t rfl)) ?_
    refine sr_rd rfl (rd_load one_int (ev_t rfl) (fun _ => B3.at_ rfl)) ?_
    refine sr_pu rfl (fun _ => rd_eq (ev_t rfl) ev_c) ?_
    refine sr_pu rfl (fun _ => rd_move (ev_t rfl)) ?_
    refine sr_pug rfl rfl rfl (fun _ => rd_field fo_api_Node_1 (ev_t rfl)) ?_
    refine sr_rdg rfl rfl rfl (rd_load one_string (ev_u rfl id) (fun _ => B3.at_ rfl)) ?_
    refine sr_pug rfl rfl rfl (fun _ => rd_seq (ev_u rfl id) ev_c) ?_
    refine sr_pu rfl (fun _ => rd_pick_and (ev_t rfl) (ev_u rfl id)) ?_
    refine sr_pu rfl (fun _ => rd_move (ev_t rfl)) ?_
    refine sr_pug rfl rfl rfl (fun _ => rd_field fo_api_Node_4 (ev_t rfl)) ?_
    refine sr_rdg rfl rfl rfl (rd_load one_sl_api_Node (ev_u rfl id) (fun _ => B3.at_ rfl)) ?_
    refine sr_pureg rfl rfl rfl (fun _ => (rc_call go_r03_fields ev_f (args_cons (ev_u rfl id) (args_nil)) rfl)) (fun hc => fields_ok _ _ _ D _ (hkid0.grow g) hkl0) (fun w54 g54 => ?_)
    have g := g.trans (g54)
    replace B1 := B1.grow (g54)
    replace B3 := B3.grow (g54)
    refine sr_pu rfl (fun _ => rd_pick_and (ev_t rfl) (ev_u rfl id)) ?_
    refine sr_pu rfl (fun _ => rd_move (ev_t rfl)) ?_
    refine sr_pug rfl rfl rfl (fun _ => rd_field fo_api_Node_4 (ev_t rfl)) ?_
    refine sr_rdg rfl rfl rfl (rd_load one_sl_api_Node (ev_u rfl id) (fun _ => B1.at_ rfl)) ?_
    refine sr_pug rfl rfl rfl (fun _ => rd_idxq el_sl_api_Node (ev_u rfl id) ev_c (fun _ => by omega) (fun _ => hpe)) ?_
    refine sr_rdg rfl rfl rfl (rd_loads agg_api_Node (ev_u rfl id) rfl (fun _ => hcell1.grow g)) ?_
    refine sr_pureg rfl rfl rfl (fun _ => (rc_call go_r03_isNone ev_f (args_cons (ev_u rfl id) (args_nil)) rfl)) (fun hc => none_ok _ _ _ _) (fun w61 g61 => ?_)
    have g := g.trans (g61)
    replace B1 := B1.grow (g61)
    replace B3 := B3.grow (g61)
    refine sr_pug rfl rfl rfl (fun _ => rd_move (ev_u rfl id)) ?_
    refine sr_pug rfl rfl rfl (fun _ => rd_field fo_api_Node_4 (ev_t rfl)) ?_
    refine sr_rdg rfl rfl rfl (rd_load one_sl_api_Node (ev_u rfl id) (fun _ => B1.at_ rfl)) ?_
    refine sr_pug rfl rfl rfl (fun _ => rd_idxq el_sl_api_Node (ev_u rfl id) ev_c (fun _ => by omega) (fun _ => hpe)) ?_
    refine sr_rdg rfl rfl rfl (rd_loads agg_api_Node (ev_u rfl id) rfl (fun _ => hcell1.grow g)) ?_
    refine sr_pureg rfl rfl rfl (fun _ => (rc_call go_r03_IsType ev_f (args_cons (ev_u rfl id) (args_nil)) rfl)) (fun hc => istype_ok _ _ _ _) (fun w67 g67 => ?_)
    have g := g.trans (g67)
    replace B1 := B1.grow (g67)
    replace B3 := B3.grow (g67)
    refine sr_pug rfl rfl rfl (fun _ => rd_pick_or (ev_u rfl id) (ev_u rfl id)) ?_
    refine sr_pu rfl (fun _ => rd_pick_and (ev_t rfl) (ev_u rfl id)) ?_
    refine sr_pu rfl (fun _ => rd_move (ev_t rfl)) ?_
    refine sr_pug rfl rfl rfl (fun _ => rd_field fo_api_Node_4 (ev_t rfl)) ?_
    refine sr_rdg rfl rfl rfl (rd_load one_sl_api_Node (ev_u rfl id) (fun _ => B1.at_ rfl)) ?_
    refine sr_pug rfl rfl rfl (fun _ => rd_idxq el_sl_api_Node (ev_u rfl id) ev_c (fun _ => by omega) (fun _ => hpe)) ?_
    refine sr_rdg rfl rfl rfl (rd_loads agg_api_Node (ev_u rfl id) rfl (fun _ => hcell2.grow g)) ?_
    refine sr_pureg rfl rfl rfl (fun _ => (rc_call go_r03_isBlock ev_f (args_cons (ev_u rfl id) (args_nil)) rfl)) (fun hc => hr2.bl _ _ D _ (hkid2.grow g)) (fun w75 g75 => ?_)
    have g := g.trans (g75)
    replace B1 := B1.grow (g75)
    replace B3 := B3.grow (g75)
    refine sr_pu rfl (fun _ => rd_pick_and (ev_t rfl) (ev_u rfl id)) ?_
    refine sr_pu rfl (fun _ => rd_assign (ev_t rfl)) ?_
    refine sr_sub [(2, _, _)] (sub_cons rfl (sub_nil _)) ?_
    refine sr_nil (hK13 _ _ ?_)
    refine sc_ret (t_ret1 rfl rfl ?_)
    refine ⟨congrArg Value.bool ?_, g⟩
    unfold refDecl; simp only [h1, h2, h3, h4, cond_true, cond_false] <;> rfl
  (try simp only [bsimp] at h3)
  refine sc_skip (hK2 _ _ ?_)
  refine sc_sub [(2, _, _)] (sub_cons rfl (sub_nil _)) ?_
  refine sc_seq fun K14 hK14 => ?_
  refine sc_text [3] ?_
  refine sr_pu rfl (fun _ => rd_assign ev_c) ?_
  refine sr_nil (hK14 _ _ ?_)
  refine sc_ret (t_ret1 rfl rfl ?_)
  refine ⟨congrArg Value.bool ?_, g⟩
  unfold refDecl; simp only [h1, h2, h3, cond_true, cond_false] <;> rfl
theorem rdepth_ok : ∀ (t : Nd) (v : Value) (D : Nat → Prop) (w : World), Kd w D t.kids v → count t ≤ 1000000 → Ret PP fn_r03_Depth #[ndV t v] w fun r w' => r = .int .i64 (depthN t : Nat) ∧ G w w' := by
  refine Nd.ind fun t ih v D w hk hcn => ?_
  obtain ⟨p, c, rfl, hcap, hks⟩ := hk
  have g := G.refl w
  have hlen := kids_le t
  have hdc := depthN_count t
  have hde := depthN_eq t
  have hpre : ∀ i, maxL ((t.kids.take i).map depthN) ≤ maxL (t.kids.map depthN) := fun i => by
    rw [maxL_le]
    intro x hx
    rw [List.map_take] at hx
    exact (maxL_le _ _).1 (Nat.le_refl _) x (List.mem_of_mem_take hx)
  refine ret_of_sc (m := 22) func_r03_Depth rfl rfl [(0, True, _)] (sub_cons rfl (sub_nil _)) ?_
  refine sc_seq fun K1 hK1 => ?_
  refine sc_text [1, 3] ?_
  refine sr_box rfl (ev_t rfl) rfl ?_
  intro b1 w1 N1
  have l1 := N1.ge g
  have g := g.trans (N1.g)
  have B1 := N1.blk
  refine sr_pu rfl (fun _ => rd_assign ev_c) ?_
  refine sr_sub [(1, _, _), (2, _, _)] (sub_cons rfl (sub_cons rfl (sub_nil _))) ?_
  refine sr_nil (hK1 _ _ ?_)
  refine sc_seq fun K2 hK2 => ?_
  refine sc_text [3] ?_
  refine sr_pu rfl (fun _ => rd_assign ev_c) ?_
  refine sr_nil (hK2 _ _ ?_)
  refine sc_seq fun K3 hK3 => ?_
  refine sc_seq fun K4 hK4 => ?_
  refine sc_text [3] ?_
  refine sr_pu rfl (fun _ => rd_assign ev_c) ?_
  refine sr_nil (hK4 _ _ ?_)
  refine sc_block ?_
  refine sc_loop2 (fun (i : Nat) u1 => (i ≤ t.kids.length) ∧ G w1 u1) [(1, True, _), (2, True, _)] (fun (i : Nat) => [(3, True, .int .i64 ((maxL ((t.kids.take i).map depthN) : Nat) : Int)), (4, True, .int .i64 i)]) (fun (i : Nat) => t.kids.length - i) (0) ⟨by simp, G.refl _⟩ (sub_cons rfl (sub_cons rfl (sub_cons rfl (sub_cons rfl (sub_nil _))))) ?_
  rintro i u1 ⟨hI1, gl1⟩
  have g := g.trans gl1
  replace B1 := B1.grow (gl1)
  refine sc_seq fun K5 hK5 => ?_
  refine sc_seq fun K6 hK6 => ?_
  refine sc_text [3, 3, 0, 3, 3] ?_
  refine sr_pu rfl (fun _ => rd_move (ev_t rfl)) ?_
  refine sr_pu rfl (fun _ => rd_field fo_api_Node_4 (ev_t rfl)) ?_
  refine sr_rd rfl (rd_load one_sl_api_Node (ev_t rfl) (fun _ => B1.at_ rfl)) ?_
  refine sr_pu rfl (fun _ => rd_len el_sl_api_Node (ev_t rfl)) ?_
  refine sr_pu rfl (fun _ => rd_lt (ev_t rfl) (ev_t rfl)) ?_
  refine sr_sub [(1, _, _), (2, _, _), (3, _, _), (4, _, _), (9, _, _)] (sub_cons rfl (sub_cons rfl (sub_cons rfl (sub_cons rfl (sub_cons rfl (sub_nil _)))))) ?_
  refine sr_nil (hK6 _ _ ?_)
  refine sc_cond (ev_t rfl) (fun h1 => ?_) (fun h1 => ?_)
  · replace h1 : i < t.kids.length := by simp only [decide_eq_true_eq] at h1; omega
    obtain ⟨b, o, rfl, hD, xs, hR, hX⟩ := hks (by omega)
    obtain ⟨p', c', hcell, hkid⟩ := kd_at hR hX h1
    have hck := count_kid h1
    refine sc_skip (hK5 _ _ ?_)
    refine sc_sub [(1, _, _), (2, _, _), (3, _, _), (4, _, _)] (sub_cons rfl (sub_cons rfl (sub_cons rfl (sub_cons rfl (sub_nil _))))) ?_
    refine sc_seq fun K7 hK7 => ?_
    refine sc_block ?_
    refine sc_text [3, 3, 0, 3, 3, 0, 1, 3, 3] ?_
    refine sr_pu rfl (fun _ => rd_move (ev_t rfl)) ?_
    refine sr_pu rfl (fun _ => rd_field fo_api_Node_4 (ev_t rfl)) ?_
    refine sr_rd rfl (rd_load one_sl_api_Node (ev_t rfl) (fun _ => B1.at_ rfl)) ?_
    refine sr_pu rfl (fun _ => rd_move (ev_t rfl)) ?_
    refine sr_pu rfl (fun _ => rd_idx el_sl_api_Node (ev_t rfl) (ev_t rfl) (fun _ => by omega)) ?_
    refine sr_rd rfl (rd_loads agg_api_Node (ev_t rfl) rfl (fun _ => hcell.grow g)) ?_
    refine sr_pure rfl (rc_call go_r03_Depth ev_f (args_cons (ev_t rfl) (args_nil)) rfl) (ih _ (List.getElem_mem h1) _ _ _ (hkid.grow g) (by omega)) (fun w18 g18 => ?_)
    have g := g.trans (g18)
    try have gl1 := gl1.trans (g18)
    replace B1 := B1.grow (g18)
    refine sr_pu rfl (fun _ => rd_max (ev_t rfl) (ev_t rfl)) ?_
    refine sr_pu rfl (fun _ => rd_assign (ev_t rfl)) ?_
    refine sr_sub [(1, _, _), (2, _, _), (3, _, _), (4, _, _)] (sub_cons rfl (sub_cons rfl (sub_cons rfl (sub_cons rfl (sub_nil _))))) ?_
    refine sr_nil (hK7 _ _ ?_)
    refine sc_text [3, 3, 3] ?_
    refine sr_pu rfl (fun _ => rd_move (ev_t rfl)) ?_
    refine sr_pu rfl (fun _ => rd_add (ev_t rfl) ev_c (fun _ => by omega)) ?_
    refine sr_pu rfl (fun _ => rd_assign (ev_t rfl)) ?_
    refine sr_sub [(3, _, _), (4, _, _), (1, _, _), (2, _, _)] (sub_cons rfl (sub_cons rfl (sub_cons rfl (sub_cons rfl (sub_nil _))))) ?_
    refine sr_nil (fun a ha => ?_)
    rw [max_nat, show max (maxL ((t.kids.take i).map depthN)) (depthN t.kids[i]) = maxL ((t.kids.take (i + 1)).map depthN) by rw [take_succ_map depthN t.kids i h1, maxL, maxL, List.foldl_append]; rfl] at ha
    exact ⟨i + 1, ha, ⟨h1, gl1⟩, by omega⟩
  replace h1 : i = t.kids.length := by simp only [decide_eq_false_iff_not] at h1; omega
  have hp := hpre i
  refine sc_exit rfl (hK3 _ _ ?_)
  refine sc_sub [(2, _, _), (3, _, _)] (sub_cons rfl (sub_cons rfl (sub_nil _))) ?_
  refine sc_seq fun K8 hK8 => ?_
  refine sc_text [3, 3, 3] ?_
  refine sr_pu rfl (fun _ => rd_move (ev_t rfl)) ?_
  refine sr_pu rfl (fun _ => rd_add (ev_t rfl) ev_c (fun _ => by omega)) ?_
  refine sr_pu rfl (fun _ => rd_assign (ev_t rfl)) ?_
  refine sr_nil (hK8 _ _ ?_)
  refine sc_ret (t_ret1 rfl rfl ?_)
  refine ⟨?_, g⟩
  rw [h1, List.take_length, hde]; rfl
theorem rvalid_eq (t : Nd) : (bif (!decide (t.kind = 1) || !plainB t) || decide ((50 : Int) < (depthN t : Nat)) then false else t.kids.all declB) = validB t := by
  rw [validB, permB]
  by_cases h : t.kind = 1
  · rw [permF_eq, locB, textB', formB, h]
    refine Eq.trans (b := bif !plainB t || decide ((50 : Int) < (depthN t : Nat)) then false else t.kids.all declB) rfl (Eq.trans (b := ((plainB t && (!(t.kids.any fileVarB) && everyB t (memK [2, 6, 4]))) && t.kids.all permF) && decide (depthN t ≤ 50)) ?_ rfl)
    have e1 : decide ((50 : Int) < (depthN t : Nat)) = !decide (depthN t ≤ 50) := by
      rw [← decide_not, decide_eq_decide]; omega
    have e2 : t.kids.all declB = ((!(t.kids.any fileVarB) && everyB t (memK [2, 6, 4])) && t.kids.all permF) := by
      rw [Bool.and_assoc, every_all, Bool.eq_iff_iff]
      simp only [Bool.and_eq_true, List.all_eq_true, declB, Bool.not_eq_true', List.any_eq_false]
      constructor
      · intro h; exact ⟨fun k hk => by rw [(h k hk).2]; simp, fun k hk => (h k hk).1⟩
      · rintro ⟨h1, h2⟩ k hk; exact ⟨h2 k hk, by simpa using h1 k hk⟩
    rw [e1, not_if2, e2]; ac_rfl
  · rw [decide_eq_false h]; rfl
theorem rvalid03_ok (t : Nd) (v : Value) (D : Nat → Prop) (w : World) (hk : Kd w D t.kids v) (hcn : count t ≤ 1000000) : Ret PP fn_r03_Valid #[ndV t v] w fun r w' => r = .bool (validB t) ∧ G w w' := by
  rw [← rvalid_eq]
  obtain ⟨p, c, rfl, hcap, hks⟩ := hk
  have hk0 : Kd w D t.kids (.slice p t.kids.length c) := ⟨p, c, rfl, hcap, hks⟩
  have g := G.refl w
  have hln := kids_le t
  refine ret_of_sc (m := 31) func_r03_Valid rfl rfl [(0, True, _)] (sub_cons rfl (sub_nil _)) ?_
  refine sc_seq fun K1 hK1 => ?_
  refine sc_text [1, 3] ?_
  refine sr_box rfl (ev_t rfl) rfl ?_
  intro b1 w1 N1
  have l1 := N1.ge g
  have g := g.trans (N1.g)
  have B1 := N1.blk
  refine sr_pu rfl (fun _ => rd_assign ev_c) ?_
  refine sr_sub [(1, _, _), (2, _, _)] (sub_cons rfl (sub_cons rfl (sub_nil _))) ?_
  refine sr_nil (hK1 _ _ ?_)
  refine sc_seq fun K2 hK2 => ?_
  refine sc_seq fun K3 hK3 => ?_
  refine sc_text [3, 0, 3, 3, 3, 0, 3, 3, 3, 0, 1, 3, 3] ?_
  refine sr_pu rfl (fun _ => rd_field fo_api_Node_0 (ev_t rfl)) ?_
  refine sr_rd rfl (rd_load one_int (ev_t rfl) (fun _ => B1.at_ rfl)) ?_
  refine sr_pu rfl (fun _ => rd_ne (ev_t rfl) ev_c) ?_
  refine sr_pu rfl (fun _ => rd_move (ev_t rfl)) ?_
  refine sr_pug rfl rfl rfl (fun _ => rd_field fo_api_Node_1 (ev_t rfl)) ?_
  refine sr_rdg rfl rfl rfl (rd_load one_string (ev_u rfl id) (fun _ => B1.at_ rfl)) ?_
  refine sr_pug rfl rfl rfl (fun _ => rd_sne (ev_u rfl id) ev_c) ?_
  refine sr_pu rfl (fun _ => rd_pick_or (ev_t rfl) (ev_u rfl id)) ?_
  refine sr_pu rfl (fun _ => rd_move (ev_t rfl)) ?_
  refine sr_rdg rfl rfl rfl (rd_loads agg_api_Node (ev_t rfl) rfl (fun _ => B1.row)) ?_
  refine sr_pureg rfl rfl rfl (fun _ => (rc_call go_r03_Depth ev_f (args_cons (ev_u rfl id) (args_nil)) rfl)) (fun hc => rdepth_ok t _ D _ (hk0.grow g) hcn) (fun w14 g14 => ?_)
  have g := g.trans (g14)
  replace B1 := B1.grow (g14)
  refine sr_pug rfl rfl rfl (fun _ => rd_gt (ev_u rfl id) ev_c) ?_
  refine sr_pu rfl (fun _ => rd_pick_or (ev_t rfl) (ev_u rfl id)) ?_
  refine sr_sub [(1, _, _), (2, _, _), (16, _, _)] (sub_cons rfl (sub_cons rfl (sub_cons rfl (sub_nil _)))) ?_
  refine sr_nil (hK3 _ _ ?_)
  refine sc_cond (ev_t rfl) (fun h1 => ?_) (fun h1 => ?_)
  · replace h1 : ((!decide (t.kind = 1) || !plainB t) || decide ((50 : Int) < (depthN t : Nat))) = true := h1
    refine sc_seq fun K4 hK4 => ?_
    refine sc_text [3] ?_
    refine sr_pu rfl (fun _ => rd_assign ev_c) ?_
    refine sr_sub [(1, _, _), (2, _, _)] (sub_cons rfl (sub_cons rfl (sub_nil _))) ?_
    refine sr_nil (hK4 _ _ ?_)
    refine sc_ret (t_ret1 rfl rfl ?_)
    refine ⟨congrArg Value.bool ?_, g⟩
    rw [h1]; rfl
  replace h1 : ((!decide (t.kind = 1) || !plainB t) || decide ((50 : Int) < (depthN t : Nat))) = false := h1
  refine sc_skip (hK2 _ _ ?_)
  refine sc_sub [(1, _, _), (2, _, _)] (sub_cons rfl (sub_cons rfl (sub_nil _))) ?_
  refine sc_seq fun K5 hK5 => ?_
  refine sc_seq fun K6 hK6 => ?_
  refine sc_text [3] ?_
  refine sr_pu rfl (fun _ => rd_assign ev_c) ?_
  refine sr_nil (hK6 _ _ ?_)
  refine sc_block ?_
  refine sc_loop2 (fun (i : Nat) u1 => (i ≤ t.kids.length ∧ ∀ j, (h : j < t.kids.length) → j < i → declB t.kids[j] = true) ∧ G w14 u1) [(1, True, _)] (fun (i : Nat) => [(3, True, .int .i64 i)]) (fun (i : Nat) => t.kids.length - i) (0) ⟨⟨Nat.zero_le _, fun j _ hj => absurd hj (Nat.not_lt_zero j)⟩, G.refl _⟩ (sub_cons rfl (sub_cons rfl (sub_nil _))) ?_
  rintro i u1 ⟨hI1, gl1⟩
  have g := g.trans gl1
  replace B1 := B1.grow (gl1)
  refine sc_seq fun K7 hK7 => ?_
  refine sc_seq fun K8 hK8 => ?_
  refine sc_text [3, 3, 0, 3, 3] ?_
  refine sr_pu rfl (fun _ => rd_move (ev_t rfl)) ?_
  refine sr_pu rfl (fun _ => rd_field fo_api_Node_4 (ev_t rfl)) ?_
  refine sr_rd rfl (rd_load one_sl_api_Node (ev_t rfl) (fun _ => B1.at_ rfl)) ?_
  refine sr_pu rfl (fun _ => rd_len el_sl_api_Node (ev_t rfl)) ?_
  refine sr_pu rfl (fun _ => rd_lt (ev_t rfl) (ev_t rfl)) ?_
  refine sr_sub [(1, _, _), (3, _, _), (21, _, _)] (sub_cons rfl (sub_cons rfl (sub_cons rfl (sub_nil _)))) ?_
  refine sr_nil (hK8 _ _ ?_)
  refine sc_cond (ev_t rfl) (fun h2 => ?_) (fun h2 => ?_)
  · replace h2 : i < t.kids.length := by simp only [decide_eq_true_eq] at h2; omega
    obtain ⟨hpe, p2, c2, hcell, hkid⟩ := kd_opt hk0 h2
    have hck := count_kidAt h2
    refine sc_skip (hK7 _ _ ?_)
    refine sc_sub [(1, _, _), (3, _, _)] (sub_cons rfl (sub_cons rfl (sub_nil _))) ?_
    refine sc_seq fun K9 hK9 => ?_
    refine sc_block ?_
    refine sc_seq fun K10 hK10 => ?_
    refine sc_text [3, 0, 3, 3, 0, 1, 3] ?_
    refine sr_pu rfl (fun _ => rd_field fo_api_Node_4 (ev_t rfl)) ?_
    refine sr_rd rfl (rd_load one_sl_api_Node (ev_t rfl) (fun _ => B1.at_ rfl)) ?_
    refine sr_pu rfl (fun _ => rd_move (ev_t rfl)) ?_
    refine sr_pu rfl (fun _ => rd_idxq el_sl_api_Node (ev_t rfl) (ev_t rfl) (fun _ => by omega) (fun _ => hpe)) ?_
    refine sr_rd rfl (rd_loads agg_api_Node (ev_t rfl) rfl (fun _ => hcell.grow g)) ?_
    refine sr_pure rfl (rc_call go_r03_isDecl ev_f (args_cons (ev_t rfl) (args_nil)) rfl) (isdecl_ok _ _ _ D _ (hkid.grow g) (by omega)) (fun w29 g29 => ?_)
    have g := g.trans (g29)
    try have gl1 := gl1.trans (g29)
    replace B1 := B1.grow (g29)
    refine sr_pu rfl (fun _ => rd_not (ev_t rfl)) ?_
    refine sr_sub [(1, _, _), (3, _, _), (30, _, _)] (sub_cons rfl (sub_cons rfl (sub_cons rfl (sub_nil _)))) ?_
    refine sr_nil (hK10 _ _ ?_)
    refine sc_cond (ev_t rfl) (fun h3 => ?_) (fun h3 => ?_)
    · (try simp only [bsimp] at h3)
      refine sc_seq fun K11 hK11 => ?_
      refine sc_text [3] ?_
      refine sr_pu rfl (fun _ => rd_assign ev_c) ?_
      refine sr_sub [(1, _, _), (2, _, _), (3, _, _)] (sub_cons rfl (sub_cons rfl (sub_cons rfl (sub_nil _)))) ?_
      refine sr_nil (hK11 _ _ ?_)
      refine sc_ret (t_ret1 rfl rfl ?_)
      refine ⟨congrArg Value.bool ?_, g⟩
      rw [h1, cond_false, eq_comm, List.all_eq_false]
      exact ⟨_, List.getElem_mem h2, by rw [← kidAt_eq h2]; simpa using h3⟩
    (try simp only [bsimp] at h3)
    refine sc_skip (hK9 _ _ ?_)
    refine sc_sub [(1, _, _), (3, _, _)] (sub_cons rfl (sub_cons rfl (sub_nil _))) ?_
    refine sc_text [3, 3, 3] ?_
    refine sr_pu rfl (fun _ => rd_move (ev_t rfl)) ?_
    refine sr_pu rfl (fun _ => rd_add (ev_t rfl) ev_c (fun _ => by omega)) ?_
    refine sr_pu rfl (fun _ => rd_assign (ev_t rfl)) ?_
    refine sr_sub [(3, _, _), (1, _, _)] (sub_cons rfl (sub_cons rfl (sub_nil _))) ?_
    refine sr_nil (fun a ha => ?_)
    refine ⟨i + 1, ha, ⟨⟨h2, fun j h hj => ?_⟩, gl1⟩, by omega⟩
    by_cases e : j = i
    · subst e; rw [← kidAt_eq h2]; simpa using h3
    · exact hI1.2 j h (by omega)
  (try simp only [bsimp] at h2)
  refine sc_exit rfl (hK5 _ _ ?_)
  refine sc_sub [] (sub_nil _) ?_
  refine sc_seq fun K12 hK12 => ?_
  refine sc_text [3] ?_
  refine sr_pu rfl (fun _ => rd_assign ev_c) ?_
  refine sr_nil (hK12 _ _ ?_)
  refine sc_ret (t_ret1 rfl rfl ?_)
  refine ⟨congrArg Value.bool ?_, g⟩
  rw [h1, cond_false, eq_comm, List.all_eq_true]
  intro x hx
  obtain ⟨j, hj, rfl⟩ := List.getElem_of_mem hx
  exact hI1.2 j hj (by simp only [decide_eq_false_iff_not] at h2; omega)
end Go.Rk
