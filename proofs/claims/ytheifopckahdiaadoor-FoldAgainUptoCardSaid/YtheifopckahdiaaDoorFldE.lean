/- Folding: the example of the document; values. Conditions: what start-up laid. -/
import Derived.Test.YtheifopckahdiaaDoorFldD
import Derived.Test.YtheifopckahdiaaDoorRefB
namespace Go.Rk
open Go Go.RowKit
def xN : Nd := .mk 27 [120] 0 0 [] ty0 0 0
def aw1 : Nd := binN [45] (numT 1) (numT 3)
def aw2 : Nd := binN [47] (numT 1) (numT 0)
def aw3 : Nd := binN [43] (binN [42] (numT 2) (numT 3)) xN
def aw4 : Nd := binN [43] (numT 6) xN
theorem aw1_v : valC aw1 = ((false, -2), true) := by decide +kernel
theorem aw2_v : (valC aw2).2 = false := by decide +kernel
theorem aw3_c : count (printT aw3) ≤ 1000000 := by decide +kernel
theorem aw5_c : count (printedT (fileT (printT aw3))) ≤ 1000000 := by decide +kernel
theorem aw4_e : eqB (printedT (fileT (printT aw3))) aw4 = true := by decide +kernel
theorem awake7_ok (w : World) (hL : Laid w) (hb3 : 4 ≤ w.heap.size) : Ret PP fn_l07_awake #[] w fun v w' => v = .bool true ∧ G w w' := by
  have g := G.refl w
  refine ret_of_sc (m := 44) func_l07_awake rfl rfl [] (sub_nil _) ?_
  refine sc_seq fun K1 hK1 => ?_
  refine sc_text [3] ?_
  refine sr_pu rfl (fun _ => rd_assign ev_c) ?_
  refine sr_nil (hK1 _ _ ?_)
  refine sc_seq fun K2 hK2 => ?_
  refine sc_text [1, 1, 1, 1, 3, 3, 3, 3, 3] ?_
  refine sr_call rfl (rc_call go_l07_number ev_f (args_cons ev_c (args_nil)) rfl) (lnumber_ok _ _) ?_
  rintro v7 w7 ⟨⟨p7, c7, rfl, hk7⟩, g7⟩
  refine ⟨fun _ => g7, ?_⟩
  have g := g.trans g7
  refine sr_call rfl (rc_call go_l07_number ev_f (args_cons ev_c (args_nil)) rfl) (lnumber_ok _ _) ?_
  rintro v8 w8 ⟨⟨p8, c8, rfl, hk8⟩, g8⟩
  refine ⟨fun _ => g8, ?_⟩
  have g := g.trans g8
  refine sr_call rfl (rc_call go_l07_binary ev_f (args_cons ev_c (args_cons (ev_t rfl) (args_cons (ev_t rfl) (args_nil)))) rfl) (lbinary_ok _ _ _ _ _ _ _ _ (hk7.grow g8) hk8) ?_
  rintro v9 w9 ⟨⟨p9, c9, rfl, hk9⟩, g9⟩
  refine ⟨fun _ => g9, ?_⟩
  have g := g.trans g9
  refine sr_pure rfl (rc_call go_fold_Value ev_f (args_cons (ev_t rfl) (args_nil)) rfl) (fValue_ok aw1 _ _ _ hk9) (fun w10 g10 => ?_)
  have g := g.trans (g10)
  try have hk24 := hk24.grow (g10)
  refine sr_pu rfl (fun _ => rd_move (ev_t rfl)) ?_
  refine sr_pu rfl (fun _ => rd_extract (ev_t rfl) rfl) ?_
  refine sr_pu rfl (fun _ => rd_extract (ev_t rfl) rfl) ?_
  refine sr_pu rfl (fun _ => rd_assign (ev_t rfl)) ?_
  refine sr_pu rfl (fun _ => rd_assign (ev_t rfl)) ?_
  refine sr_sub [(0, _, _), (1, _, _), (2, _, _)] (sub_cons rfl (sub_cons rfl (sub_cons rfl (sub_nil _)))) ?_
  refine sr_nil (hK2 _ _ ?_)
  refine sc_seq fun K3 hK3 => ?_
  refine sc_text [1, 1, 1, 1, 3, 3, 3, 3, 3] ?_
  refine sr_call rfl (rc_call go_l07_number ev_f (args_cons ev_c (args_nil)) rfl) (lnumber_ok _ _) ?_
  rintro v14 w14 ⟨⟨p14, c14, rfl, hk14⟩, g14⟩
  refine ⟨fun _ => g14, ?_⟩
  have g := g.trans g14
  refine sr_call rfl (rc_call go_l07_number ev_f (args_cons ev_c (args_nil)) rfl) (lnumber_ok _ _) ?_
  rintro v15 w15 ⟨⟨p15, c15, rfl, hk15⟩, g15⟩
  refine ⟨fun _ => g15, ?_⟩
  have g := g.trans g15
  refine sr_call rfl (rc_call go_l07_binary ev_f (args_cons ev_c (args_cons (ev_t rfl) (args_cons (ev_t rfl) (args_nil)))) rfl) (lbinary_ok _ _ _ _ _ _ _ _ (hk14.grow g15) hk15) ?_
  rintro v16 w16 ⟨⟨p16, c16, rfl, hk16⟩, g16⟩
  refine ⟨fun _ => g16, ?_⟩
  have g := g.trans g16
  refine sr_pure rfl (rc_call go_fold_Value ev_f (args_cons (ev_t rfl) (args_nil)) rfl) (fValue_ok aw2 _ _ _ hk16) (fun w17 g17 => ?_)
  have g := g.trans (g17)
  try have hk24 := hk24.grow (g17)
  refine sr_pu rfl (fun _ => rd_move (ev_t rfl)) ?_
  refine sr_pu rfl (fun _ => rd_extract (ev_t rfl) rfl) ?_
  refine sr_pu rfl (fun _ => rd_extract (ev_t rfl) rfl) ?_
  refine sr_pu rfl (fun _ => rd_assign (ev_t rfl)) ?_
  refine sr_pu rfl (fun _ => rd_assign (ev_t rfl)) ?_
  refine sr_sub [(0, _, _), (1, _, _), (2, _, _), (4, _, _)] (sub_cons rfl (sub_cons rfl (sub_cons rfl (sub_cons rfl (sub_nil _))))) ?_
  refine sr_nil (hK3 _ _ ?_)
  refine sc_seq fun K4 hK4 => ?_
  refine sc_text [1, 1, 1, 3, 1, 1, 2] ?_
  refine sr_call rfl (rc_call go_l07_number ev_f (args_cons ev_c (args_nil)) rfl) (lnumber_ok _ _) ?_
  rintro v20 w20 ⟨⟨p20, c20, rfl, hk20⟩, g20⟩
  refine ⟨fun _ => g20, ?_⟩
  have g := g.trans g20
  refine sr_call rfl (rc_call go_l07_number ev_f (args_cons ev_c (args_nil)) rfl) (lnumber_ok _ _) ?_
  rintro v21 w21 ⟨⟨p21, c21, rfl, hk21⟩, g21⟩
  refine ⟨fun _ => g21, ?_⟩
  have g := g.trans g21
  refine sr_call rfl (rc_call go_l07_binary ev_f (args_cons ev_c (args_cons (ev_t rfl) (args_cons (ev_t rfl) (args_nil)))) rfl) (lbinary_ok _ _ _ _ _ _ _ _ (hk20.grow g21) hk21) ?_
  rintro v22 w22 ⟨⟨p22, c22, rfl, hk22⟩, g22⟩
  refine ⟨fun _ => g22, ?_⟩
  have g := g.trans g22
  refine sr_pu rfl (fun _ => rd_build [_, _, _, _, _, _, _, _, _] ze_api_Node rfl pl_api_Node (parts_cons ev_c (parts_cons ev_c (parts_nil))) rfl) ?_
  refine sr_call rfl (rc_call go_l07_binary ev_f (args_cons ev_c (args_cons (ev_t rfl) (args_cons (ev_t rfl) (args_nil)))) rfl) (lbinary_ok _ _ xN _ _ _ (fun _ => False) _ hk22 (kd_nil _ _)) ?_
  rintro v24 w24 ⟨⟨p24, c24, rfl, hk24⟩, g24⟩
  refine ⟨fun _ => g24, ?_⟩
  have g := g.trans g24
  have hk24 := hk24.lt
  refine sr_alloc rfl ze_api_Node rfl ?_
  intro b5 w5 N5
  have l5 := N5.ge g
  have g := g.trans (N5.g)
  try have hk24 := hk24.grow (N5.g)
  have B5 := N5.blk
  refine sr_store_all rfl sz_api_Node (ev_t rfl) (ev_t rfl) rfl rfl B5 rfl rfl ?_
  intro wS1 hgS1 hzS1
  clear B5
  intro B5
  have g := g_only g hgS1 (by intro k hk; injection hk with hk; omega)
  have hk24 := hk24.keep hgS1 (fun b hb _ he => by injection he with he; have hb := hb.2; have := N5.at_; omega)
  refine sr_sub [(0, _, _), (1, _, _), (2, _, _), (4, _, _), (5, _, _)] (sub_cons rfl (sub_cons rfl (sub_cons rfl (sub_cons rfl (sub_cons rfl (sub_nil _)))))) ?_
  refine sr_nil (hK4 _ _ ?_)
  refine sc_seq fun K5 hK5 => ?_
  refine sc_text [3, 3, 3, 3, 3, 3, 3, 3, 3, 3, 0, 1, 1, 1, 1, 3, 1, 1, 3, 3] ?_
  rw [aw1_v, aw2_v]
  refine sr_pu rfl (fun _ => rd_move (ev_t rfl)) ?_
  refine sr_pu rfl (fun _ => rd_eq (ev_t rfl) ev_c) ?_
  refine sr_pu rfl (fun _ => rd_move (ev_t rfl)) ?_
  refine sr_pug rfl rfl rfl (fun _ => rd_move (ev_t rfl)) ?_
  refine sr_pu rfl (fun _ => rd_pick_and (ev_t rfl) (ev_u rfl id)) ?_
  refine sr_pu rfl (fun _ => rd_move (ev_t rfl)) ?_
  refine sr_pug rfl rfl rfl (fun _ => rd_move (ev_t rfl)) ?_
  refine sr_pug rfl rfl rfl (fun _ => rd_not (ev_u rfl id)) ?_
  refine sr_pu rfl (fun _ => rd_pick_and (ev_t rfl) (ev_u rfl id)) ?_
  refine sr_pu rfl (fun _ => rd_move (ev_t rfl)) ?_
  refine sr_rdg rfl rfl rfl (rd_loads agg_api_Node (ev_t rfl) rfl (fun _ => B5.row)) ?_
  refine sr_callq rfl rfl rfl (fun _ => rc_call go_l07_printing ev_f (args_cons (ev_u rfl id) (args_nil)) rfl) (fun hc => lprinting_ok aw3 _ _ _ hk24) ?_
  intro v36 w36 hv36 g36
  have g := g.trans (g36)
  replace B5 := B5.grow (g36)
  try have hk24 := hk24.grow (g36)
  refine sr_callq rfl rfl rfl (fun _ => rc_call go_fold_File ev_f (args_cons (ev_u rfl id) (args_nil)) rfl) (fun hc => (by obtain ⟨p, c, e, hk⟩ := hv36 hc; rw [e]; exact ffile_ok (printT aw3) _ _ _ (hL.grow g) (by have := g.size; omega) hk aw3_c)) ?_
  intro v37 w37 hv37 g37
  have g := g.trans (g37)
  replace B5 := B5.grow (g37)
  try have hk24 := hk24.grow (g37)
  refine sr_callq rfl rfl rfl (fun _ => rc_call go_l07_printed ev_f (args_cons (ev_u rfl id) (args_nil)) rfl) (fun hc => (by obtain ⟨p, c, e, hk⟩ := hv37 hc; rw [e]; exact lprinted_ok _ _ _ _ hk)) ?_
  intro v38 w38 hv38 g38
  have g := g.trans (g38)
  replace B5 := B5.grow (g38)
  try have hk24 := hk24.grow (g38)
  refine sr_callq rfl rfl rfl (fun _ => rc_call go_l07_number ev_f (args_cons ev_c (args_nil)) rfl) (fun hc => lnumber_ok _ _) ?_
  intro v39 w39 hv39 g39
  have g := g.trans (g39)
  replace B5 := B5.grow (g39)
  try have hk24 := hk24.grow (g39)
  refine sr_pug rfl rfl rfl (fun _ => rd_build [_, _, _, _, _, _, _, _, _] ze_api_Node rfl pl_api_Node (parts_cons ev_c (parts_cons ev_c (parts_nil))) rfl) ?_
  refine sr_callq rfl rfl rfl (fun _ => rc_call go_l07_binary ev_f (args_cons ev_c (args_cons (ev_u rfl id) (args_cons (ev_u rfl id) (args_nil)))) rfl) (fun hc => (by obtain ⟨p, c, e, hk⟩ := hv39 hc; rw [e]; exact lbinary_ok _ _ xN _ _ _ (fun _ => False) _ hk (kd_nil _ _))) ?_
  intro v41 w41 hv41 g41
  have g := g.trans (g41)
  replace B5 := B5.grow (g41)
  try have hk24 := hk24.grow (g41)
  refine sr_pureg rfl rfl rfl (fun _ => (rc_call go_r03_Equal ev_f (args_cons (ev_u rfl id) (args_cons (ev_u rfl id) (args_nil))) rfl)) (fun hc => (show Ret PP _ _ w41 (fun r w' => r = .bool (eqB (printedT (fileT (printT aw3))) aw4) ∧ G w41 w') from by obtain ⟨p, c, e, hk⟩ := hv38 hc; obtain ⟨p', c', e', hk'⟩ := hv41 hc; rw [e, e']; exact requal_ok _ _ _ _ _ _ _ (hk.grow (g39.trans g41)) hk' aw5_c)) (fun w42 g42 => ?_)
  have g := g.trans (g42)
  replace B5 := B5.grow (g42)
  try have hk24 := hk24.grow (g42)
  refine sr_pu rfl (fun _ => rd_pick_and (ev_t rfl) (ev_u rfl id)) ?_
  refine sr_pu rfl (fun _ => rd_assign (ev_t rfl)) ?_
  refine sr_sub [(0, _, _)] (sub_cons rfl (sub_nil _)) ?_
  refine sr_nil (hK5 _ _ ?_)
  refine sc_ret (t_ret1 rfl rfl ?_)
  refine ⟨congrArg Value.bool ?_, g⟩
  rw [aw4_e]; rfl
theorem fvalue_law (t : Nd) (v : Value) (D : Nat → Prop) (w : World) (hL : Laid w) (hb3 : 4 ≤ w.heap.size) (hk : Kd w D t.kids v) (hcn : count t ≤ 1048576) : Ret PP fn_l07_FoldValue #[ndV t v] w fun v w' => v = .bool true ∧ G w w' := by
  have hk0 := hk
  obtain ⟨p, c, rfl, hcap, hks⟩ := hk
  have g := G.refl w
  have hln := kids_le t
  refine ret_of_sc (m := 31) func_l07_FoldValue rfl rfl [(0, True, _)] (sub_cons rfl (sub_nil _)) ?_
  refine sc_seq fun K1 hK1 => ?_
  refine sc_text [1, 3] ?_
  refine sr_box rfl (ev_t rfl) rfl ?_
  intro b1 w1 N1
  have l1 := N1.ge g
  have g := g.trans (N1.g)
  have B1 := N1.blk
  refine sr_pu rfl (fun _ => rd_assign ev_c) ?_
  refine sr_sub [(1, _, _), (2, _, _)] (sub_cons rfl (sub_cons rfl (sub_nil _))) ?_
  refine sr_nil (hK1 _ _ ?_)
  refine sc_seq fun K2 hK2 => ?_
  refine sc_seq fun K3 hK3 => ?_
  refine sc_text [1, 3] ?_
  refine sr_pure rfl (rc_call go_l07_awake ev_f (args_nil) rfl) (awake7_ok _ (hL.grow g) (by have := g.size; omega)) (fun w7 g7 => ?_)
  have g := g.trans (g7)
  replace B1 := B1.grow (g7)
  refine sr_pu rfl (fun _ => rd_not (ev_t rfl)) ?_
  refine sr_sub [(1, _, _), (2, _, _), (8, _, _)] (sub_cons rfl (sub_cons rfl (sub_cons rfl (sub_nil _)))) ?_
  refine sr_nil (hK3 _ _ ?_)
  refine sc_false (ev_t rfl) ?_
  refine sc_skip (hK2 _ _ ?_)
  refine sc_sub [(1, _, _), (2, _, _)] (sub_cons rfl (sub_cons rfl (sub_nil _))) ?_
  refine sc_seq fun K4 hK4 => ?_
  refine sc_seq fun K5 hK5 => ?_
  refine sc_text [0, 1, 3] ?_
  refine sr_rd rfl (rd_loads agg_api_Node (ev_t rfl) rfl (fun _ => B1.row)) ?_
  refine sr_pure rfl (rc_call go_r03_Count ev_f (args_cons (ev_t rfl) (args_nil)) rfl) (rcount_ok t _ _ _ (hk0.grow g) (by omega)) (fun w10 g10 => ?_)
  have g := g.trans (g10)
  replace B1 := B1.grow (g10)
  refine sr_pu rfl (fun _ => rd_gt (ev_t rfl) ev_c) ?_
  refine sr_sub [(1, _, _), (2, _, _), (11, _, _)] (sub_cons rfl (sub_cons rfl (sub_cons rfl (sub_nil _)))) ?_
  refine sr_nil (hK5 _ _ ?_)
  refine sc_cond (ev_t rfl) (fun h2 => ?_) (fun h2 => ?_)
  · (try simp only [bsimp] at h2)
    refine sc_seq fun K6 hK6 => ?_
    refine sc_text [3] ?_
    refine sr_pu rfl (fun _ => rd_assign ev_c) ?_
    refine sr_sub [(1, _, _), (2, _, _)] (sub_cons rfl (sub_cons rfl (sub_nil _))) ?_
    refine sr_nil (hK6 _ _ ?_)
    refine sc_ret (t_ret1 rfl rfl ?_)
    exact ⟨rfl, g⟩
  · have hc1 : count t ≤ 200 := by simp only [decide_eq_false_iff_not] at h2; omega
    refine sc_skip (hK4 _ _ ?_)
    refine sc_sub [(1, _, _), (2, _, _)] (sub_cons rfl (sub_cons rfl (sub_nil _))) ?_
    refine sc_seq fun K7 hK7 => ?_
    refine sc_text [0, 1, 1, 3, 3, 3, 3, 3] ?_
    refine sr_rd rfl (rd_loads agg_api_Node (ev_t rfl) rfl (fun _ => B1.row)) ?_
    refine sr_call rfl (rc_call go_r03_Copy ev_f (args_cons (ev_t rfl) (args_nil)) rfl) (rcopy_ok t _ _ _ (hk0.grow g) (by omega) (by omega)) ?_
    rintro v14 w14 ⟨⟨p2, c2, rfl, hk2⟩, g14⟩
    refine ⟨fun _ => g14, ?_⟩
    have g := g.trans g14
    replace B1 := B1.grow (g14)
    refine sr_pure rfl (rc_call go_fold_Value ev_f (args_cons (ev_t rfl) (args_nil)) rfl) (fValue_ok t _ _ _ hk2) (fun w15 g15 => ?_)
    have g := g.trans (g15)
    replace B1 := B1.grow (g15)
    refine sr_pu rfl (fun _ => rd_move (ev_t rfl)) ?_
    refine sr_pu rfl (fun _ => rd_extract (ev_t rfl) rfl) ?_
    refine sr_pu rfl (fun _ => rd_extract (ev_t rfl) rfl) ?_
    refine sr_pu rfl (fun _ => rd_assign (ev_t rfl)) ?_
    refine sr_pu rfl (fun _ => rd_assign (ev_t rfl)) ?_
    refine sr_sub [(1, _, _), (2, _, _), (3, _, _), (4, _, _)] (sub_cons rfl (sub_cons rfl (sub_cons rfl (sub_cons rfl (sub_nil _))))) ?_
    refine sr_nil (hK7 _ _ ?_)
    refine sc_seq fun K8 hK8 => ?_
    refine sc_text [0, 1, 3, 3, 3, 3, 3] ?_
    refine sr_rd rfl (rd_loads agg_api_Node (ev_t rfl) rfl (fun _ => B1.row)) ?_
    refine sr_pure rfl (rc_call go_r07_Value ev_f (args_cons (ev_t rfl) (args_nil)) rfl) (rValue_ok t _ _ _ (hk0.grow g) (by omega)) (fun w20 g20 => ?_)
    have g := g.trans (g20)
    replace B1 := B1.grow (g20)
    refine sr_pu rfl (fun _ => rd_move (ev_t rfl)) ?_
    refine sr_pu rfl (fun _ => rd_extract (ev_t rfl) rfl) ?_
    refine sr_pu rfl (fun _ => rd_extract (ev_t rfl) rfl) ?_
    refine sr_pu rfl (fun _ => rd_assign (ev_t rfl)) ?_
    refine sr_pu rfl (fun _ => rd_assign (ev_t rfl)) ?_
    refine sr_sub [(2, _, _), (3, _, _), (4, _, _), (5, _, _), (6, _, _)] (sub_cons rfl (sub_cons rfl (sub_cons rfl (sub_cons rfl (sub_cons rfl (sub_nil _)))))) ?_
    refine sr_nil (hK8 _ _ ?_)
    refine sc_seq fun K9 hK9 => ?_
    refine sc_text [3, 3, 3, 3, 3, 3, 3, 3, 3] ?_
    refine sr_pu rfl (fun _ => rd_move (ev_t rfl)) ?_
    refine sr_pu rfl (fun _ => rd_move (ev_t rfl)) ?_
    refine sr_pu rfl (fun _ => rd_eq (ev_t rfl) (ev_t rfl)) ?_
    refine sr_pu rfl (fun _ => rd_move (ev_t rfl)) ?_
    refine sr_pug rfl rfl rfl (fun _ => rd_move (ev_t rfl)) ?_
    refine sr_pug rfl rfl rfl (fun _ => rd_move (ev_t rfl)) ?_
    refine sr_pug rfl rfl rfl (fun _ => rd_beq und_bool (ev_u rfl id) (ev_u rfl id)) ?_
    refine sr_pu rfl (fun _ => rd_pick_and (ev_t rfl) (ev_u rfl id)) ?_
    refine sr_pu rfl (fun _ => rd_assign (ev_t rfl)) ?_
    refine sr_sub [(2, _, _)] (sub_cons rfl (sub_nil _)) ?_
    refine sr_nil (hK9 _ _ ?_)
    refine sc_ret (t_ret1 rfl rfl ?_)
    refine ⟨congrArg Value.bool ?_, g⟩
    simp
end Go.Rk
