/- Syntax: the reference's statements. Conditions: none. -/
import Derived.Test.YtheifopckahdiaaDoorSynF
namespace Go.Rk
open Go Go.RowKit
theorem isblock_ok (t : Nd) (p : Option Addr) (c : Nat) (D : Nat → Prop) (w : World) (hk : Kd w D t.kids (.slice p t.kids.length c)) (ih : Below t) (hln : t.kids.length ≤ 1000000) : Ret PP fn_r03_isBlock #[ndV t (.slice p t.kids.length c)] w fun r w' => r = .bool (blockB t) ∧ G w w' := by
  rw [← refBlock_eq, refBlock]
  have g := G.refl w
  refine ret_of_sc (m := 26) func_r03_isBlock rfl rfl [(0, True, _)] (sub_cons rfl (sub_nil _)) ?_
  refine sc_seq fun K1 hK1 => ?_
  refine sc_text [1, 3] ?_
  refine sr_box rfl (ev_t rfl) rfl ?_
  intro b1 w1 N1
  have l1 := N1.ge g
  have g := g.trans (N1.g)
  have B1 := N1.blk
  refine sr_pu rfl (fun _ => rd_assign ev_c) ?_
  refine sr_sub [(1, _, _), (2, _, _)] (sub_cons rfl (sub_cons rfl (sub_nil _))) ?_
  refine sr_nil (hK1 _ _ ?_)
  refine sc_seq fun K2 hK2 => ?_
  refine sc_seq fun K3 hK3 => ?_
  refine sc_text [3, 0, 3, 3, 3, 0, 3, 3] ?_
  refine sr_pu rfl (fun _ => rd_field fo_api_Node_0 (ev_t rfl)) ?_
  refine sr_rd rfl (rd_load one_int (ev_t rfl) (fun _ => B1.at_ rfl)) ?_
  refine sr_pu rfl (fun _ => rd_ne (ev_t rfl) ev_c) ?_
  refine sr_pu rfl (fun _ => rd_move (ev_t rfl)) ?_
  refine sr_pug rfl rfl rfl (fun _ => rd_field fo_api_Node_1 (ev_t rfl)) ?_
  refine sr_rdg rfl rfl rfl (rd_load one_string (ev_u rfl id) (fun _ => B1.at_ rfl)) ?_
  refine sr_pug rfl rfl rfl (fun _ => rd_sne (ev_u rfl id) ev_c) ?_
  refine sr_pu rfl (fun _ => rd_pick_or (ev_t rfl) (ev_u rfl id)) ?_
  refine sr_sub [(1, _, _), (2, _, _), (11, _, _)] (sub_cons rfl (sub_cons rfl (sub_cons rfl (sub_nil _)))) ?_
  refine sr_nil (hK3 _ _ ?_)
  refine sc_cond (ev_t rfl) (fun h1 => ?_) (fun h1 => ?_)
  · replace h1 : (!decide (t.kind = 10) || !plainB t) = true := h1
    refine sc_seq fun K4 hK4 => ?_
    refine sc_text [3] ?_
    refine sr_pu rfl (fun _ => rd_assign ev_c) ?_
    refine sr_sub [(1, _, _), (2, _, _)] (sub_cons rfl (sub_cons rfl (sub_nil _))) ?_
    refine sr_nil (hK4 _ _ ?_)
    refine sc_ret (t_ret1 rfl rfl ?_)
    refine ⟨congrArg Value.bool ?_, g⟩
    rw [h1]; rfl
  · replace h1 : (!decide (t.kind = 10) || !plainB t) = false := h1
    refine sc_skip (hK2 _ _ ?_)
    refine sc_sub [(1, _, _), (2, _, _)] (sub_cons rfl (sub_cons rfl (sub_nil _))) ?_
    refine sc_seq fun K5 hK5 => ?_
    refine sc_seq fun K6 hK6 => ?_
    refine sc_text [3] ?_
    refine sr_pu rfl (fun _ => rd_assign ev_c) ?_
    refine sr_nil (hK6 _ _ ?_)
    refine sc_block ?_
    refine sc_loop2 (fun (i : Nat) u1 => (i ≤ t.kids.length ∧ ∀ j, (h : j < t.kids.length) → j < i → stmtB t.kids[j] = true) ∧ G w1 u1) [(1, True, _)] (fun (i : Nat) => [(3, True, .int .i64 i)]) (fun (i : Nat) => t.kids.length - i) (0) ⟨⟨Nat.zero_le _, fun j _ hj => absurd hj (Nat.not_lt_zero j)⟩, G.refl _⟩ (sub_cons rfl (sub_cons rfl (sub_nil _))) ?_
    rintro i u1 ⟨hI1, gl1⟩
    have g := g.trans gl1
    replace B1 := B1.grow (gl1)
    refine sc_seq fun K7 hK7 => ?_
    refine sc_seq fun K8 hK8 => ?_
    refine sc_text [3, 3, 0, 3, 3] ?_
    refine sr_pu rfl (fun _ => rd_move (ev_t rfl)) ?_
    refine sr_pu rfl (fun _ => rd_field fo_api_Node_4 (ev_t rfl)) ?_
    refine sr_rd rfl (rd_load one_sl_api_Node (ev_t rfl) (fun _ => B1.at_ rfl)) ?_
    refine sr_pu rfl (fun _ => rd_len el_sl_api_Node (ev_t rfl)) ?_
    refine sr_pu rfl (fun _ => rd_lt (ev_t rfl) (ev_t rfl)) ?_
    refine sr_sub [(1, _, _), (3, _, _), (16, _, _)] (sub_cons rfl (sub_cons rfl (sub_cons rfl (sub_nil _)))) ?_
    refine sr_nil (hK8 _ _ ?_)
    refine sc_cond (ev_t rfl) (fun h2 => ?_) (fun h2 => ?_)
    · replace h2 : i < t.kids.length := by simp only [decide_eq_true_eq] at h2; omega
      obtain ⟨hpe, p2, c2, hcell, hkid⟩ := kd_opt hk h2
      have hr := ih.kid h2
      refine sc_skip (hK7 _ _ ?_)
      refine sc_sub [(1, _, _), (3, _, _)] (sub_cons rfl (sub_cons rfl (sub_nil _))) ?_
      refine sc_seq fun K9 hK9 => ?_
      refine sc_block ?_
      refine sc_seq fun K10 hK10 => ?_
      refine sc_text [3, 0, 3, 3, 0, 1, 3] ?_
      refine sr_pu rfl (fun _ => rd_field fo_api_Node_4 (ev_t rfl)) ?_
      refine sr_rd rfl (rd_load one_sl_api_Node (ev_t rfl) (fun _ => B1.at_ rfl)) ?_
      refine sr_pu rfl (fun _ => rd_move (ev_t rfl)) ?_
      refine sr_pu rfl (fun _ => rd_idxq el_sl_api_Node (ev_t rfl) (ev_t rfl) (fun _ => by omega) (fun _ => hpe)) ?_
      refine sr_rd rfl (rd_loads agg_api_Node (ev_t rfl) rfl (fun _ => hcell.grow g)) ?_
      refine sr_pure rfl (rc_call go_r03_isStmt ev_f (args_cons (ev_t rfl) (args_nil)) rfl) (hr.st _ _ D _ (hkid.grow g)) (fun w24 g24 => ?_)
      have g := g.trans (g24)
      try have gl1 := gl1.trans (g24)
      replace B1 := B1.grow (g24)
      refine sr_pu rfl (fun _ => rd_not (ev_t rfl)) ?_
      refine sr_sub [(1, _, _), (3, _, _), (25, _, _)] (sub_cons rfl (sub_cons rfl (sub_cons rfl (sub_nil _)))) ?_
      refine sr_nil (hK10 _ _ ?_)
      refine sc_cond (ev_t rfl) (fun h3 => ?_) (fun h3 => ?_)
      · (try simp only [bsimp] at h3)
        refine sc_seq fun K11 hK11 => ?_
        refine sc_text [3] ?_
        refine sr_pu rfl (fun _ => rd_assign ev_c) ?_
        refine sr_sub [(1, _, _), (2, _, _), (3, _, _)] (sub_cons rfl (sub_cons rfl (sub_cons rfl (sub_nil _)))) ?_
        refine sr_nil (hK11 _ _ ?_)
        refine sc_ret (t_ret1 rfl rfl ?_)
        refine ⟨congrArg Value.bool ?_, g⟩
        rw [h1, cond_false, eq_comm, List.all_eq_false]
        exact ⟨_, List.getElem_mem h2, by rw [← kidAt_eq h2]; simpa using h3⟩
      · (try simp only [bsimp] at h3)
        refine sc_skip (hK9 _ _ ?_)
        refine sc_sub [(1, _, _), (3, _, _)] (sub_cons rfl (sub_cons rfl (sub_nil _))) ?_
        refine sc_text [3, 3, 3] ?_
        refine sr_pu rfl (fun _ => rd_move (ev_t rfl)) ?_
        refine sr_pu rfl (fun _ => rd_add (ev_t rfl) ev_c (fun _ => by omega)) ?_
        refine sr_pu rfl (fun _ => rd_assign (ev_t rfl)) ?_
        refine sr_sub [(3, _, _), (1, _, _)] (sub_cons rfl (sub_cons rfl (sub_nil _))) ?_
        refine sr_nil (fun a ha => ?_)
        refine ⟨i + 1, ha, ⟨⟨h2, fun j h hj => ?_⟩, gl1⟩, by omega⟩
        by_cases e : j = i
        · subst e; rw [← kidAt_eq h2]; simpa using h3
        · exact hI1.2 j h (by omega)
    · (try simp only [bsimp] at h2)
      refine sc_exit rfl (hK5 _ _ ?_)
      refine sc_sub [] (sub_nil _) ?_
      refine sc_seq fun K12 hK12 => ?_
      refine sc_text [3] ?_
      refine sr_pu rfl (fun _ => rd_assign ev_c) ?_
      refine sr_nil (hK12 _ _ ?_)
      refine sc_ret (t_ret1 rfl rfl ?_)
      refine ⟨congrArg Value.bool ?_, g⟩
      rw [h1, cond_false, eq_comm, List.all_eq_true]
      intro x hx
      obtain ⟨j, hj, rfl⟩ := List.getElem_of_mem hx
      exact hI1.2 j hj (by simp only [decide_eq_false_iff_not] at h2; omega)
theorem isif_ok (t : Nd) (p : Option Addr) (c : Nat) (D : Nat → Prop) (w : World) (hk : Kd w D t.kids (.slice p t.kids.length c)) (ih : Below t) : Ret PP fn_r03_isIf #[ndV t (.slice p t.kids.length c)] w fun r w' => r = .bool (ifB t) ∧ G w w' := by
  rw [← refIf_eq, refIf]
  have g := G.refl w
  refine ret_of_sc (m := 46) func_r03_isIf rfl rfl [(0, True, _)] (sub_cons rfl (sub_nil _)) ?_
  refine sc_seq fun K1 hK1 => ?_
  refine sc_text [1, 3] ?_
  refine sr_box rfl (ev_t rfl) rfl ?_
  intro b1 w1 N1
  have l1 := N1.ge g
  have g := g.trans (N1.g)
  have B1 := N1.blk
  refine sr_pu rfl (fun _ => rd_assign ev_c) ?_
  refine sr_sub [(1, _, _), (2, _, _)] (sub_cons rfl (sub_cons rfl (sub_nil _))) ?_
  refine sr_nil (hK1 _ _ ?_)
  refine sc_seq fun K2 hK2 => ?_
  refine sc_seq fun K3 hK3 => ?_
  refine sc_text [3, 0, 3, 3, 3, 0, 3, 3, 3, 3, 0, 3, 3, 3] ?_
  refine sr_pu rfl (fun _ => rd_field fo_api_Node_0 (ev_t rfl)) ?_
  refine sr_rd rfl (rd_load one_int (ev_t rfl) (fun _ => B1.at_ rfl)) ?_
  refine sr_pu rfl (fun _ => rd_ne (ev_t rfl) ev_c) ?_
  refine sr_pu rfl (fun _ => rd_move (ev_t rfl)) ?_
  refine sr_pug rfl rfl rfl (fun _ => rd_field fo_api_Node_1 (ev_t rfl)) ?_
  refine sr_rdg rfl rfl rfl (rd_load one_string (ev_u rfl id) (fun _ => B1.at_ rfl)) ?_
  refine sr_pug rfl rfl rfl (fun _ => rd_sne (ev_u rfl id) ev_c) ?_
  refine sr_pu rfl (fun _ => rd_pick_or (ev_t rfl) (ev_u rfl id)) ?_
  refine sr_pu rfl (fun _ => rd_move (ev_t rfl)) ?_
  refine sr_pug rfl rfl rfl (fun _ => rd_field fo_api_Node_4 (ev_t rfl)) ?_
  refine sr_rdg rfl rfl rfl (rd_load one_sl_api_Node (ev_u rfl id) (fun _ => B1.at_ rfl)) ?_
  refine sr_pug rfl rfl rfl (fun _ => rd_len el_sl_api_Node (ev_u rfl id)) ?_
  refine sr_pug rfl rfl rfl (fun _ => rd_ne (ev_u rfl id) ev_c) ?_
  refine sr_pu rfl (fun _ => rd_pick_or (ev_t rfl) (ev_u rfl id)) ?_
  refine sr_sub [(1, _, _), (2, _, _), (17, _, _)] (sub_cons rfl (sub_cons rfl (sub_cons rfl (sub_nil _)))) ?_
  refine sr_nil (hK3 _ _ ?_)
  refine sc_cond (ev_t rfl) (fun h1 => ?_) (fun h1 => ?_)
  · replace h1 : ((!decide (t.kind = 18) || !plainB t) || !lenK t 3) = true := h1
    refine sc_seq fun K4 hK4 => ?_
    refine sc_text [3] ?_
    refine sr_pu rfl (fun _ => rd_assign ev_c) ?_
    refine sr_sub [(1, _, _), (2, _, _)] (sub_cons rfl (sub_cons rfl (sub_nil _))) ?_
    refine sr_nil (hK4 _ _ ?_)
    refine sc_ret (t_ret1 rfl rfl ?_)
    refine ⟨congrArg Value.bool ?_, g⟩
    rw [h1]; rfl
  · replace h1 : ((!decide (t.kind = 18) || !plainB t) || !lenK t 3) = false := h1
    have hl3 : t.kids.length = 3 := by simp only [lenK, Bool.or_eq_false_iff, Bool.not_eq_false', decide_eq_true_eq] at h1; omega
    obtain ⟨hpe, p0, c0, hcell0, hkid0⟩ := kd_opt hk (i := 0) (by omega)
    obtain ⟨_, p1, c1, hcell1, hkid1⟩ := kd_opt hk (i := 1) (by omega)
    obtain ⟨_, p2, c2, hcell2, hkid2⟩ := kd_opt hk (i := 2) (by omega)
    have hr0 := ih.kid (i := 0) (by omega)
    have hr1 := ih.kid (i := 1) (by omega)
    have hr2 := ih.kid (i := 2) (by omega)
    refine sc_skip (hK2 _ _ ?_)
    refine sc_sub [(1, _, _), (2, _, _)] (sub_cons rfl (sub_cons rfl (sub_nil _))) ?_
    refine sc_seq fun K5 hK5 => ?_
    refine sc_text [3, 0, 3, 0, 1, 2] ?_
    refine sr_pu rfl (fun _ => rd_field fo_api_Node_4 (ev_t rfl)) ?_
    refine sr_rd rfl (rd_load one_sl_api_Node (ev_t rfl) (fun _ => B1.at_ rfl)) ?_
    refine sr_pu rfl (fun _ => rd_idxq el_sl_api_Node (ev_t rfl) ev_c (fun _ => by omega) (fun _ => hpe)) ?_
    refine sr_rd rfl (rd_loads agg_api_Node (ev_t rfl) rfl (fun _ => hcell2.grow g)) ?_
    refine sr_alloc rfl ze_api_Node rfl ?_
    intro b3 w3 N3
    have x3_1 := N3.ne B1
    have l3 := N3.ge g
    have g := g.trans (N3.g)
    replace B1 := B1.grow (N3.g)
    have B3 := N3.blk
    refine sr_store_all rfl sz_api_Node (ev_t rfl) (ev_t rfl) rfl rfl B3 rfl rfl ?_
    intro wS1 hgS1 hzS1
    clear B3
    intro B3
    replace B1 := B1.keep hgS1 (by intro h; injection h with h; omega)
    have g := g_only g hgS1 (by intro k hk; injection hk with hk; omega)
    refine sr_sub [(1, _, _), (2, _, _), (3, _, _)] (sub_cons rfl (sub_cons rfl (sub_cons rfl (sub_nil _)))) ?_
    refine sr_nil (hK5 _ _ ?_)
    refine sc_seq fun K6 hK6 => ?_
    refine sc_text [3, 0, 3, 0, 1, 3, 3, 0, 3, 0, 1, 3, 3, 0, 1, 3, 0, 1, 3, 3, 0, 1, 3, 3, 3] ?_
    refine sr_pu rfl (fun _ => rd_field fo_api_Node_4 (ev_t rfl)) ?_
    refine sr_rd rfl (rd_load one_sl_api_Node (ev_t rfl) (fun _ => B1.at_ rfl)) ?_
    refine sr_pu rfl (fun _ => rd_idxq el_sl_api_Node (ev_t rfl) ev_c (fun _ => by omega) (fun _ => hpe)) ?_
    refine sr_rd rfl (rd_loads agg_api_Node (ev_t rfl) rfl (fun _ => hcell0.grow g)) ?_
    refine sr_pure rfl (rc_call go_r03_IsExpr ev_f (args_cons (ev_t rfl) (args_nil)) rfl) (hr0.ex _ _ D _ (hkid0.grow g)) (fun w26 g26 => ?_)
    have g := g.trans (g26)
    replace B1 := B1.grow (g26)
    replace B3 := B3.grow (g26)
    refine sr_pu rfl (fun _ => rd_move (ev_t rfl)) ?_
    refine sr_pug rfl rfl rfl (fun _ => rd_field fo_api_Node_4 (ev_t rfl)) ?_
    refine sr_rdg rfl rfl rfl (rd_load one_sl_api_Node (ev_u rfl id) (fun _ => B1.at_ rfl)) ?_
    refine sr_pug rfl rfl rfl (fun _ => rd_idxq el_sl_api_Node (ev_u rfl id) ev_c (fun _ => by omega) (fun _ => hpe)) ?_
    refine sr_rdg rfl rfl rfl (rd_loads agg_api_Node (ev_u rfl id) rfl (fun _ => hcell1.grow g)) ?_
    refine sr_pureg rfl rfl rfl (fun _ => (rc_call go_r03_isBlock ev_f (args_cons (ev_u rfl id) (args_nil)) rfl)) (fun hc => hr1.bl _ _ D _ (hkid1.grow g)) (fun w32 g32 => ?_)
    have g := g.trans (g32)
    replace B1 := B1.grow (g32)
    replace B3 := B3.grow (g32)
    refine sr_pu rfl (fun _ => rd_pick_and (ev_t rfl) (ev_u rfl id)) ?_
    refine sr_pu rfl (fun _ => rd_move (ev_t rfl)) ?_
    refine sr_rdg rfl rfl rfl (rd_loads agg_api_Node (ev_t rfl) rfl (fun _ => B3.row)) ?_
    refine sr_pureg rfl rfl rfl (fun _ => (rc_call go_r03_isBlock ev_f (args_cons (ev_u rfl id) (args_nil)) rfl)) (fun hc => hr2.bl _ _ D _ (hkid2.grow g)) (fun w36 g36 => ?_)
    have g := g.trans (g36)
    replace B1 := B1.grow (g36)
    replace B3 := B3.grow (g36)
    refine sr_pug rfl rfl rfl (fun _ => rd_move (ev_u rfl id)) ?_
    refine sr_rdg rfl rfl rfl (rd_loads agg_api_Node (ev_t rfl) rfl (fun _ => B3.row)) ?_
    refine sr_pureg rfl rfl rfl (fun _ => (rc_call go_r03_isIf ev_f (args_cons (ev_u rfl id) (args_nil)) rfl)) (fun hc => hr2.fi _ _ D _ (hkid2.grow g)) (fun w39 g39 => ?_)
    have g := g.trans (g39)
    replace B1 := B1.grow (g39)
    replace B3 := B3.grow (g39)
    refine sr_pug rfl rfl rfl (fun _ => rd_pick_or (ev_u rfl id) (ev_u rfl id)) ?_
    refine sr_pug rfl rfl rfl (fun _ => rd_move (ev_u rfl id)) ?_
    refine sr_rdg rfl rfl rfl (rd_loads agg_api_Node (ev_t rfl) rfl (fun _ => B3.row)) ?_
    refine sr_pureg rfl rfl rfl (fun _ => (rc_call go_r03_isNone ev_f (args_cons (ev_u rfl id) (args_nil)) rfl)) (fun hc => none_ok _ _ _ _) (fun w43 g43 => ?_)
    have g := g.trans (g43)
    replace B1 := B1.grow (g43)
    replace B3 := B3.grow (g43)
    refine sr_pug rfl rfl rfl (fun _ => rd_pick_or (ev_u rfl id) (ev_u rfl id)) ?_
    refine sr_pu rfl (fun _ => rd_pick_and (ev_t rfl) (ev_u rfl id)) ?_
    refine sr_pu rfl (fun _ => rd_assign (ev_t rfl)) ?_
    refine sr_sub [(2, _, _)] (sub_cons rfl (sub_nil _)) ?_
    refine sr_nil (hK6 _ _ ?_)
    refine sc_ret (t_ret1 rfl rfl ?_)
    refine ⟨congrArg Value.bool ?_, g⟩
    rw [h1]; rfl
theorem isvar_ok (t : Nd) (p : Option Addr) (c : Nat) (D : Nat → Prop) (w : World) (hk : Kd w D t.kids (.slice p t.kids.length c)) (ih : Below t) : Ret PP fn_r03_isVar #[ndV t (.slice p t.kids.length c)] w fun r w' => r = .bool (varB t) ∧ G w w' := by
  rw [← refVar_eq, refVar]
  have g := G.refl w
  obtain ⟨p0, c0, h0x⟩ := kd_ih hk ih 0
  obtain ⟨p1, c1, h1x⟩ := kd_ih hk ih 1
  refine ret_of_sc (m := 38) func_r03_isVar rfl rfl [(0, True, _)] (sub_cons rfl (sub_nil _)) ?_
  refine sc_seq fun K1 hK1 => ?_
  refine sc_text [1, 3] ?_
  refine sr_box rfl (ev_t rfl) rfl ?_
  intro b1 w1 N1
  have l1 := N1.ge g
  have g := g.trans (N1.g)
  have B1 := N1.blk
  refine sr_pu rfl (fun _ => rd_assign ev_c) ?_
  refine sr_sub [(1, _, _), (2, _, _)] (sub_cons rfl (sub_cons rfl (sub_nil _))) ?_
  refine sr_nil (hK1 _ _ ?_)
  refine sc_seq fun K2 hK2 => ?_
  refine sc_text [3, 0, 3, 3, 3, 0, 1, 3, 3, 3, 0, 3, 3, 3, 3, 3, 0, 3, 0, 1, 3, 3, 3, 0, 3, 0, 1, 3, 3, 0, 3, 0, 1, 3, 3, 3] ?_
  refine sr_pu rfl (fun _ => rd_field fo_api_Node_0 (ev_t rfl)) ?_
  refine sr_rd rfl (rd_load one_int (ev_t rfl) (fun _ => B1.at_ rfl)) ?_
  refine sr_pu rfl (fun _ => rd_eq (ev_t rfl) ev_c) ?_
  refine sr_pu rfl (fun _ => rd_move (ev_t rfl)) ?_
  refine sr_pug rfl rfl rfl (fun _ => rd_field fo_api_Node_1 (ev_t rfl)) ?_
  refine sr_rdg rfl rfl rfl (rd_load one_string (ev_u rfl id) (fun _ => B1.at_ rfl)) ?_
  refine sr_pureg rfl rfl rfl (fun _ => (rc_call go_r02_Name ev_f (args_cons (ev_u rfl id) (args_nil)) rfl)) (fun hc => rname_ok _ _) (fun w9 g9 => ?_)
  have g := g.trans (g9)
  replace B1 := B1.grow (g9)
  refine sr_pu rfl (fun _ => rd_pick_and (ev_t rfl) (ev_u rfl id)) ?_
  refine sr_pu rfl (fun _ => rd_move (ev_t rfl)) ?_
  refine sr_pug rfl rfl rfl (fun _ => rd_field fo_api_Node_4 (ev_t rfl)) ?_
  refine sr_rdg rfl rfl rfl (rd_load one_sl_api_Node (ev_u rfl id) (fun _ => B1.at_ rfl)) ?_
  refine sr_pug rfl rfl rfl (fun _ => rd_len el_sl_api_Node (ev_u rfl id)) ?_
  refine sr_pug rfl rfl rfl (fun _ => rd_eq (ev_u rfl id) ev_c) ?_
  refine sr_pu rfl (fun _ => rd_pick_and (ev_t rfl) (ev_u rfl id)) ?_
  refine sr_pu rfl (fun _ => rd_move (ev_t rfl)) ?_
  refine sr_pug rfl rfl rfl (fun _ => rd_field fo_api_Node_4 (ev_t rfl)) ?_
  refine sr_rdg rfl rfl rfl (rd_load one_sl_api_Node (ev_u rfl id) (fun _ => B1.at_ rfl)) ?_
  refine sr_pug rfl rfl rfl (fun _ => rd_idxq el_sl_api_Node (ev_u rfl id) ev_c (fun hc => by (have hz := hc.2; first | (unfold lenK at hz; simp at hz; omega) | (simp at hz; omega))) (fun hc => (h0x (by (have hz := hc.2; first | (unfold lenK at hz; simp at hz; omega) | (simp at hz; omega)))).1)) ?_
  refine sr_rdg rfl rfl rfl (rd_loads agg_api_Node (ev_u rfl id) rfl (fun hc => (h0x (by (have hz := hc.2; first | (unfold lenK at hz; simp at hz; omega) | (simp at hz; omega)))).2.1.grow g)) ?_
  refine sr_pureg rfl rfl rfl (fun _ => (rc_call go_r03_IsType ev_f (args_cons (ev_u rfl id) (args_nil)) rfl)) (fun hc => istype_ok _ _ _ _) (fun w22 g22 => ?_)
  have g := g.trans (g22)
  replace B1 := B1.grow (g22)
  refine sr_pu rfl (fun _ => rd_pick_and (ev_t rfl) (ev_u rfl id)) ?_
  refine sr_pu rfl (fun _ => rd_move (ev_t rfl)) ?_
  refine sr_pug rfl rfl rfl (fun _ => rd_field fo_api_Node_4 (ev_t rfl)) ?_
  refine sr_rdg rfl rfl rfl (rd_load one_sl_api_Node (ev_u rfl id) (fun _ => B1.at_ rfl)) ?_
  refine sr_pug rfl rfl rfl (fun _ => rd_idxq el_sl_api_Node (ev_u rfl id) ev_c (fun hc => by (have hz := hc.2; first | (unfold lenK at hz; simp at hz; omega) | (simp at hz; omega))) (fun hc => (h1x (by (have hz := hc.2; first | (unfold lenK at hz; simp at hz; omega) | (simp at hz; omega)))).1)) ?_
  refine sr_rdg rfl rfl rfl (rd_loads agg_api_Node (ev_u rfl id) rfl (fun hc => (h1x (by (have hz := hc.2; first | (unfold lenK at hz; simp at hz; omega) | (simp at hz; omega)))).2.1.grow g)) ?_
  refine sr_pureg rfl rfl rfl (fun _ => (rc_call go_r03_isNone ev_f (args_cons (ev_u rfl id) (args_nil)) rfl)) (fun hc => none_ok _ _ _ _) (fun w29 g29 => ?_)
  have g := g.trans (g29)
  replace B1 := B1.grow (g29)
  refine sr_pug rfl rfl rfl (fun _ => rd_move (ev_u rfl id)) ?_
  refine sr_pug rfl rfl rfl (fun _ => rd_field fo_api_Node_4 (ev_t rfl)) ?_
  refine sr_rdg rfl rfl rfl (rd_load one_sl_api_Node (ev_u rfl id) (fun _ => B1.at_ rfl)) ?_
  refine sr_pug rfl rfl rfl (fun _ => rd_idxq el_sl_api_Node (ev_u rfl id) ev_c (fun hc => by (have hz := hc.1.2; first | (unfold lenK at hz; simp at hz; omega) | (simp at hz; omega))) (fun hc => (h1x (by (have hz := hc.1.2; first | (unfold lenK at hz; simp at hz; omega) | (simp at hz; omega)))).1)) ?_
  refine sr_rdg rfl rfl rfl (rd_loads agg_api_Node (ev_u rfl id) rfl (fun hc => (h1x (by (have hz := hc.1.2; first | (unfold lenK at hz; simp at hz; omega) | (simp at hz; omega)))).2.1.grow g)) ?_
  refine sr_pureg rfl rfl rfl (fun _ => (rc_call go_r03_IsExpr ev_f (args_cons (ev_u rfl id) (args_nil)) rfl)) (fun hc => (h1x (by (have hz := hc.1.2; first | (unfold lenK at hz; simp at hz; omega) | (simp at hz; omega)))).2.2.2.ex _ _ D _ ((h1x (by (have hz := hc.1.2; first | (unfold lenK at hz; simp at hz; omega) | (simp at hz; omega)))).2.2.1.grow g)) (fun w35 g35 => ?_)
  have g := g.trans (g35)
  replace B1 := B1.grow (g35)
  refine sr_pug rfl rfl rfl (fun _ => rd_pick_or (ev_u rfl id) (ev_u rfl id)) ?_
  refine sr_pu rfl (fun _ => rd_pick_and (ev_t rfl) (ev_u rfl id)) ?_
  refine sr_pu rfl (fun _ => rd_assign (ev_t rfl)) ?_
  refine sr_sub [(2, _, _)] (sub_cons rfl (sub_nil _)) ?_
  refine sr_nil (hK2 _ _ ?_)
  refine sc_ret (t_ret1 rfl rfl ?_)
  exact ⟨rfl, g⟩
end Go.Rk
