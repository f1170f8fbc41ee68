/- Merged texts of one road: FldA. Conditions: each text's own. -/
import Derived.Test.YteicjpedahoilaaGreatDoorA09
set_option linter.unusedSimpArgs false
set_option linter.unusedVariables false
namespace Go.Rk
open Go Go.RowKit
abbrev Cst := Bool × Int
@[reducible] def conV (c : Cst) : Value := .agg #[.bool c.1, .int .i64 c.2]
def zc : Cst × Bool := ((false, 0), false)
def trC (b : Bool) : Cst × Bool := ((true, bif b then 1 else 0), true)
def nmC (n : Int) : Cst × Bool := ((false, n), true)
def binF (op : List UInt8) (x y : Cst) : Cst × Bool :=
  bif decide (op = [61, 61]) then trC (decide (x.2 = y.2))
  else bif decide (op = [33, 61]) then trC (!decide (x.2 = y.2))
  else bif x.1 then
    bif decide (op = [38, 38]) then trC (decide (x.2 = 1) && decide (y.2 = 1))
    else bif decide (op = [124, 124]) then trC (decide (x.2 = 1) || decide (y.2 = 1))
    else zc
  else bif decide (op = [43]) then nmC (IntKind.i64.wrap (x.2 + y.2))
  else bif decide (op = [45]) then nmC (IntKind.i64.wrap (x.2 - y.2))
  else bif decide (op = [42]) then nmC (IntKind.i64.wrap (x.2 * y.2))
  else bif decide (op = [47]) then (bif !decide (y.2 = 0) then nmC (IntKind.i64.wrap (x.2.tdiv y.2)) else zc)
  else bif decide (op = [37]) then (bif !decide (y.2 = 0) then nmC (x.2.tmod y.2) else zc)
  else bif decide (op = [60]) then trC (decide (x.2 < y.2))
  else bif decide (op = [60, 61]) then trC (decide (x.2 ≤ y.2))
  else bif decide (op = [62]) then trC (decide (y.2 < x.2))
  else bif decide (op = [62, 61]) then trC (decide (y.2 ≤ x.2))
  else zc
theorem truth_ok (b : Bool) (w : World) : Ret PP fn_fold_truth #[.bool b] w fun v w' => v = conV (trC b).1 ∧ G w w' := by
  have g := G.refl w
  refine ret_of_sc (m := 6) func_fold_truth rfl rfl [(0, True, _)] (sub_cons rfl (sub_nil _)) ?_
  refine sc_seq fun K1 hK1 => ?_
  refine sc_text [1] ?_
  refine sr_alloc rfl ze_fold_constant rfl ?_
  intro b2 w2 N2
  have l2 := N2.ge g
  have g := g.trans (N2.g)
  have B2 := N2.blk
  refine sr_nil (hK1 _ _ ?_)
  refine sc_seq fun K2 hK2 => ?_
  refine sc_seq fun K3 hK3 => ?_
  refine sc_text [3] ?_
  refine sr_pu rfl (fun _ => rd_move (ev_t rfl)) ?_
  refine sr_sub [(2, _, _), (3, _, _)] (sub_cons rfl (sub_cons rfl (sub_nil _))) ?_
  refine sr_nil (hK3 _ _ ?_)
  refine sc_cond (ev_t rfl) (fun h1 => ?_) (fun h1 => ?_)
  · (try simp only [bsimp] at h1)
    refine sc_seq fun K4 hK4 => ?_
    refine sc_text [3, 2] ?_
    refine sr_pu rfl (fun _ => rd_build [_, _] ze_fold_constant rfl pl_fold_constant (parts_cons ev_c (parts_cons ev_c (parts_nil))) rfl) ?_
    refine sr_store_all rfl sz_fold_constant (ev_t rfl) (ev_t rfl) rfl rfl B2 rfl rfl ?_
    intro wS1 hgS1 hzS1
    clear B2
    intro B2
    have g := g_only g hgS1 (by intro k hk; injection hk with hk; omega)
    refine sr_sub [(2, _, _)] (sub_cons rfl (sub_nil _)) ?_
    refine sr_nil (hK4 _ _ ?_)
    refine sc_ret (t_retv1 rfl (evr_c rfl agg_fold_constant rfl (by first | exact B2.row) (evr_nil)) ?_)
    refine ⟨?_, g⟩
    rw [h1]; rfl
  (try simp only [bsimp] at h1)
  refine sc_skip (hK2 _ _ ?_)
  refine sc_sub [(2, _, _)] (sub_cons rfl (sub_nil _)) ?_
  refine sc_seq fun K5 hK5 => ?_
  refine sc_text [3, 2] ?_
  refine sr_pu rfl (fun _ => rd_build [_, _] ze_fold_constant rfl pl_fold_constant (parts_cons ev_c (parts_cons ev_c (parts_nil))) rfl) ?_
  refine sr_store_all rfl sz_fold_constant (ev_t rfl) (ev_t rfl) rfl rfl B2 rfl rfl ?_
  intro wS2 hgS2 hzS2
  clear B2
  intro B2
  have g := g_only g hgS2 (by intro k hk; injection hk with hk; omega)
  refine sr_sub [(2, _, _)] (sub_cons rfl (sub_nil _)) ?_
  refine sr_nil (hK5 _ _ ?_)
  refine sc_ret (t_retv1 rfl (evr_c rfl agg_fold_constant rfl (by first | exact B2.row) (evr_nil)) ?_)
  refine ⟨?_, g⟩
  rw [h1]; rfl
theorem fbin_ok (op : List UInt8) (x y : Cst) (w : World) : Ret PP fn_fold_binary #[Str op, conV x, conV y] w fun v w' => v = .tuple #[conV (binF op x y).1, .bool (binF op x y).2] ∧ G w w' := by
  have g := G.refl w
  refine ret_of_sc (m := 131) func_fold_binary rfl rfl [(0, True, _), (1, True, _), (2, True, _)] (sub_cons rfl (sub_cons rfl (sub_cons rfl (sub_nil _)))) ?_
  refine sc_seq fun K1 hK1 => ?_
  refine sc_text [1, 1, 1, 3] ?_
  refine sr_box rfl (ev_t rfl) rfl ?_
  intro b4 w4 N4
  have l4 := N4.ge g
  have g := g.trans (N4.g)
  have B4 := N4.blk
  refine sr_box rfl (ev_t rfl) rfl ?_
  intro b5 w5 N5
  have x5_4 := N5.ne B4
  have l5 := N5.ge g
  have g := g.trans (N5.g)
  replace B4 := B4.grow (N5.g)
  have B5 := N5.blk
  refine sr_alloc rfl ze_fold_constant rfl ?_
  intro b6 w6 N6
  have x6_4 := N6.ne B4
  have x6_5 := N6.ne B5
  have l6 := N6.ge g
  have g := g.trans (N6.g)
  replace B4 := B4.grow (N6.g)
  replace B5 := B5.grow (N6.g)
  have B6 := N6.blk
  refine sr_pu rfl (fun _ => rd_assign ev_c) ?_
  refine sr_sub [(0, _, _), (4, _, _), (5, _, _), (6, _, _), (7, _, _)] (sub_cons rfl (sub_cons rfl (sub_cons rfl (sub_cons rfl (sub_cons rfl (sub_nil _)))))) ?_
  refine sr_nil (hK1 _ _ ?_)
  refine sc_seq fun K2 hK2 => ?_
  refine sc_seq fun K3 hK3 => ?_
  refine sc_text [3] ?_
  refine sr_pu rfl (fun _ => rd_move (ev_t rfl)) ?_
  refine sr_nil (hK3 _ _ ?_)
  refine sc_block ?_
  refine sc_seq fun K4 hK4 => ?_
  refine sc_text [3, 3] ?_
  refine sr_pu rfl (fun _ => rd_seq (ev_t rfl) ev_c) ?_
  refine sr_pu rfl (fun _ => rd_assign (ev_t rfl)) ?_
  refine sr_sub [(0, _, _), (4, _, _), (5, _, _), (6, _, _), (7, _, _), (8, _, _), (9, _, _)] (sub_cons rfl (sub_cons rfl (sub_cons rfl (sub_cons rfl (sub_cons rfl (sub_cons rfl (sub_cons rfl (sub_nil _)))))))) ?_
  refine sr_nil (hK4 _ _ ?_)
  refine sc_cond (ev_t rfl) (fun h1 => ?_) (fun h1 => ?_)
  · (try simp only [bsimp] at h1)
    refine sc_seq fun K5 hK5 => ?_
    refine sc_text [3, 0, 3, 0, 3, 1, 2, 3] ?_
    refine sr_pu rfl (fun _ => rd_field fo_fold_constant_1 (ev_t rfl)) ?_
    refine sr_rd rfl (rd_load one_int (ev_t rfl) (fun _ => B4.at_ rfl)) ?_
    refine sr_pu rfl (fun _ => rd_field fo_fold_constant_1 (ev_t rfl)) ?_
    refine sr_rd rfl (rd_load one_int (ev_t rfl) (fun _ => B5.at_ rfl)) ?_
    refine sr_pu rfl (fun _ => rd_eq (ev_t rfl) (ev_t rfl)) ?_
    refine sr_pure rfl (rc_call go_fold_truth ev_f (args_cons (ev_t rfl) (args_nil)) rfl) (truth_ok _ _) (fun w16 g16 => ?_)
    have g := g.trans (g16)
    replace B4 := B4.grow (g16)
    replace B5 := B5.grow (g16)
    replace B6 := B6.grow (g16)
    refine sr_store_all rfl sz_fold_constant (ev_t rfl) (ev_t rfl) rfl rfl B6 rfl rfl ?_
    intro wS1 hgS1 hzS1
    clear B6
    intro B6
    replace B4 := B4.keep hgS1 (by intro h; injection h with h; first | exact x6_4 h.symm | exact x4_6 h | omega)
    replace B5 := B5.keep hgS1 (by intro h; injection h with h; first | exact x6_5 h.symm | exact x5_6 h | omega)
    have g := g_only g hgS1 (by intro k hk; injection hk with hk; omega)
    refine sr_pu rfl (fun _ => rd_assign ev_c) ?_
    refine sr_sub [(0, _, _), (4, _, _), (5, _, _), (6, _, _), (7, _, _)] (sub_cons rfl (sub_cons rfl (sub_cons rfl (sub_cons rfl (sub_cons rfl (sub_nil _)))))) ?_
    refine sr_nil (hK5 _ _ ?_)
    refine sc_ret (t_retv (rs := [.cell 6 67, .tmp 7]) (vs := [_, _]) rfl rfl (evr_c rfl agg_fold_constant rfl (by first | exact B4.row | exact B5.row | exact B6.row) (evr_t rfl (evr_nil))) rfl ?_)
    refine ⟨?_, g⟩
    unfold binF; simp only [h1, cond_true, cond_false]; rfl
  (try simp only [bsimp] at h1)
  refine sc_seq fun K6 hK6 => ?_
  refine sc_text [3, 3] ?_
  refine sr_pu rfl (fun _ => rd_seq (ev_t rfl) ev_c) ?_
  refine sr_pu rfl (fun _ => rd_assign (ev_t rfl)) ?_
  refine sr_sub [(0, _, _), (4, _, _), (5, _, _), (6, _, _), (7, _, _), (17, _, _)] (sub_cons rfl (sub_cons rfl (sub_cons rfl (sub_cons rfl (sub_cons rfl (sub_cons rfl (sub_nil _))))))) ?_
  refine sr_nil (hK6 _ _ ?_)
  refine sc_cond (ev_t rfl) (fun h2 => ?_) (fun h2 => ?_)
  · (try simp only [bsimp] at h2)
    refine sc_seq fun K7 hK7 => ?_
    refine sc_text [3, 0, 3, 0, 3, 1, 2, 3] ?_
    refine sr_pu rfl (fun _ => rd_field fo_fold_constant_1 (ev_t rfl)) ?_
    refine sr_rd rfl (rd_load one_int (ev_t rfl) (fun _ => B4.at_ rfl)) ?_
    refine sr_pu rfl (fun _ => rd_field fo_fold_constant_1 (ev_t rfl)) ?_
    refine sr_rd rfl (rd_load one_int (ev_t rfl) (fun _ => B5.at_ rfl)) ?_
    refine sr_pu rfl (fun _ => rd_ne (ev_t rfl) (ev_t rfl)) ?_
    refine sr_pure rfl (rc_call go_fold_truth ev_f (args_cons (ev_t rfl) (args_nil)) rfl) (truth_ok _ _) (fun w24 g24 => ?_)
    have g := g.trans (g24)
    replace B4 := B4.grow (g24)
    replace B5 := B5.grow (g24)
    replace B6 := B6.grow (g24)
    refine sr_store_all rfl sz_fold_constant (ev_t rfl) (ev_t rfl) rfl rfl B6 rfl rfl ?_
    intro wS2 hgS2 hzS2
    clear B6
    intro B6
    replace B4 := B4.keep hgS2 (by intro h; injection h with h; first | exact x6_4 h.symm | exact x4_6 h | omega)
    replace B5 := B5.keep hgS2 (by intro h; injection h with h; first | exact x6_5 h.symm | exact x5_6 h | omega)
    have g := g_only g hgS2 (by intro k hk; injection hk with hk; omega)
    refine sr_pu rfl (fun _ => rd_assign ev_c) ?_
    refine sr_sub [(0, _, _), (4, _, _), (5, _, _), (6, _, _), (7, _, _)] (sub_cons rfl (sub_cons rfl (sub_cons rfl (sub_cons rfl (sub_cons rfl (sub_nil _)))))) ?_
    refine sr_nil (hK7 _ _ ?_)
    refine sc_ret (t_retv (rs := [.cell 6 67, .tmp 7]) (vs := [_, _]) rfl rfl (evr_c rfl agg_fold_constant rfl (by first | exact B4.row | exact B5.row | exact B6.row) (evr_t rfl (evr_nil))) rfl ?_)
    refine ⟨?_, g⟩
    unfold binF; simp only [h1, h2, cond_true, cond_false]; rfl
  (try simp only [bsimp] at h2)
  refine sc_skip (hK2 _ _ ?_)
  refine sc_sub [(0, _, _), (4, _, _), (5, _, _), (6, _, _), (7, _, _)] (sub_cons rfl (sub_cons rfl (sub_cons rfl (sub_cons rfl (sub_cons rfl (sub_nil _)))))) ?_
  refine sc_seq fun K8 hK8 => ?_
  refine sc_seq fun K9 hK9 => ?_
  refine sc_text [3, 0] ?_
  refine sr_pu rfl (fun _ => rd_field fo_fold_constant_0 (ev_t rfl)) ?_
  refine sr_rd rfl (rd_load one_bool (ev_t rfl) (fun _ => B4.at_ rfl)) ?_
  refine sr_nil (hK9 _ _ ?_)
  refine sc_cond (ev_t rfl) (fun h3 => ?_) (fun h3 => ?_)
  · (try simp only [bsimp] at h3)
    refine sc_seq fun K10 hK10 => ?_
    refine sc_seq fun K11 hK11 => ?_
    refine sc_text [3] ?_
    refine sr_pu rfl (fun _ => rd_move (ev_t rfl)) ?_
    refine sr_nil (hK11 _ _ ?_)
    refine sc_block ?_
    refine sc_seq fun K12 hK12 => ?_
    refine sc_text [3, 3] ?_
    refine sr_pu rfl (fun _ => rd_seq (ev_t rfl) ev_c) ?_
    refine sr_pu rfl (fun _ => rd_assign (ev_t rfl)) ?_
    refine sr_nil (hK12 _ _ ?_)
    refine sc_sub [(0, _, _), (4, _, _), (5, _, _), (6, _, _), (7, _, _), (25, _, _), (26, _, _), (27, _, _), (28, _, _), (29, _, _)] (sub_cons rfl (sub_cons rfl (sub_cons rfl (sub_cons rfl (sub_cons rfl (sub_cons rfl (sub_cons rfl (sub_cons rfl (sub_cons rfl (sub_cons rfl (sub_nil _))))))))))) ?_
    refine sc_cond (ev_t rfl) (fun h4 => ?_) (fun h4 => ?_)
    · (try simp only [bsimp] at h4)
      refine sc_seq fun K13 hK13 => ?_
      refine sc_text [3, 0, 3, 3, 3, 0, 3, 3, 1, 2, 3] ?_
      refine sr_pu rfl (fun _ => rd_field fo_fold_constant_1 (ev_t rfl)) ?_
      refine sr_rd rfl (rd_load one_int (ev_t rfl) (fun _ => B4.at_ rfl)) ?_
      refine sr_pu rfl (fun _ => rd_eq (ev_t rfl) ev_c) ?_
      refine sr_pu rfl (fun _ => rd_move (ev_t rfl)) ?_
      refine sr_pug rfl rfl rfl (fun _ => rd_field fo_fold_constant_1 (ev_t rfl)) ?_
      refine sr_rdg rfl rfl rfl (rd_load one_int (ev_u rfl id) (fun _ => B5.at_ rfl)) ?_
      refine sr_pug rfl rfl rfl (fun _ => rd_eq (ev_u rfl id) ev_c) ?_
      refine sr_pu rfl (fun _ => rd_pick_and (ev_t rfl) (ev_u rfl id)) ?_
      refine sr_pure rfl (rc_call go_fold_truth ev_f (args_cons (ev_t rfl) (args_nil)) rfl) (truth_ok _ _) (fun w38 g38 => ?_)
      have g := g.trans (g38)
      replace B4 := B4.grow (g38)
      replace B5 := B5.grow (g38)
      replace B6 := B6.grow (g38)
      refine sr_store_all rfl sz_fold_constant (ev_t rfl) (ev_t rfl) rfl rfl B6 rfl rfl ?_
      intro wS3 hgS3 hzS3
      clear B6
      intro B6
      replace B4 := B4.keep hgS3 (by intro h; injection h with h; first | exact x6_4 h.symm | exact x4_6 h | omega)
      replace B5 := B5.keep hgS3 (by intro h; injection h with h; first | exact x6_5 h.symm | exact x5_6 h | omega)
      have g := g_only g hgS3 (by intro k hk; injection hk with hk; omega)
      refine sr_pu rfl (fun _ => rd_assign ev_c) ?_
      refine sr_nil (hK13 _ _ ?_)
      refine sc_ret (t_retv (rs := [.cell 6 67, .tmp 7]) (vs := [_, _]) rfl rfl (evr_c rfl agg_fold_constant rfl (by first | exact B4.row | exact B5.row | exact B6.row) (evr_t rfl (evr_nil))) rfl ?_)
      refine ⟨?_, g⟩
      unfold binF; simp only [h1, h2, h3, h4, cond_true, cond_false]; rfl
    (try simp only [bsimp] at h4)
    refine sc_seq fun K14 hK14 => ?_
    refine sc_text [3, 3] ?_
    refine sr_pu rfl (fun _ => rd_seq (ev_t rfl) ev_c) ?_
    refine sr_pu rfl (fun _ => rd_assign (ev_t rfl)) ?_
    refine sr_nil (hK14 _ _ ?_)
    refine sc_sub [(0, _, _), (4, _, _), (5, _, _), (6, _, _), (7, _, _), (25, _, _), (26, _, _), (27, _, _), (28, _, _), (29, _, _), (39, _, _), (40, _, _)] (sub_cons rfl (sub_cons rfl (sub_cons rfl (sub_cons rfl (sub_cons rfl (sub_cons rfl (sub_cons rfl (sub_cons rfl (sub_cons rfl (sub_cons rfl (sub_cons rfl (sub_cons rfl (sub_nil _))))))))))))) ?_
    refine sc_cond (ev_t rfl) (fun h5 => ?_) (fun h5 => ?_)
    · (try simp only [bsimp] at h5)
      refine sc_seq fun K15 hK15 => ?_
      refine sc_text [3, 0, 3, 3, 3, 0, 3, 3, 1, 2, 3] ?_
      refine sr_pu rfl (fun _ => rd_field fo_fold_constant_1 (ev_t rfl)) ?_
      refine sr_rd rfl (rd_load one_int (ev_t rfl) (fun _ => B4.at_ rfl)) ?_
      refine sr_pu rfl (fun _ => rd_eq (ev_t rfl) ev_c) ?_
      refine sr_pu rfl (fun _ => rd_move (ev_t rfl)) ?_
      refine sr_pug rfl rfl rfl (fun _ => rd_field fo_fold_constant_1 (ev_t rfl)) ?_
      refine sr_rdg rfl rfl rfl (rd_load one_int (ev_u rfl id) (fun _ => B5.at_ rfl)) ?_
      refine sr_pug rfl rfl rfl (fun _ => rd_eq (ev_u rfl id) ev_c) ?_
      refine sr_pu rfl (fun _ => rd_pick_or (ev_t rfl) (ev_u rfl id)) ?_
      refine sr_pure rfl (rc_call go_fold_truth ev_f (args_cons (ev_t rfl) (args_nil)) rfl) (truth_ok _ _) (fun w49 g49 => ?_)
      have g := g.trans (g49)
      replace B4 := B4.grow (g49)
      replace B5 := B5.grow (g49)
      replace B6 := B6.grow (g49)
      refine sr_store_all rfl sz_fold_constant (ev_t rfl) (ev_t rfl) rfl rfl B6 rfl rfl ?_
      intro wS4 hgS4 hzS4
      clear B6
      intro B6
      replace B4 := B4.keep hgS4 (by intro h; injection h with h; first | exact x6_4 h.symm | exact x4_6 h | omega)
      replace B5 := B5.keep hgS4 (by intro h; injection h with h; first | exact x6_5 h.symm | exact x5_6 h | omega)
      have g := g_only g hgS4 (by intro k hk; injection hk with hk; omega)
      refine sr_pu rfl (fun _ => rd_assign ev_c) ?_
      refine sr_nil (hK15 _ _ ?_)
      refine sc_ret (t_retv (rs := [.cell 6 67, .tmp 7]) (vs := [_, _]) rfl rfl (evr_c rfl agg_fold_constant rfl (by first | exact B4.row | exact B5.row | exact B6.row) (evr_t rfl (evr_nil))) rfl ?_)
      refine ⟨?_, g⟩
      unfold binF; simp only [h1, h2, h3, h4, h5, cond_true, cond_false]; rfl
    (try simp only [bsimp] at h5)
    refine sc_skip (hK10 _ _ ?_)
    refine sc_seq fun K16 hK16 => ?_
    refine sc_text [3, 2, 3] ?_
    refine sr_pu rfl (fun _ => rd_build [_, _] ze_fold_constant rfl pl_fold_constant (parts_nil) rfl) ?_
    refine sr_store_all rfl sz_fold_constant (ev_t rfl) (ev_t rfl) rfl rfl B6 rfl rfl ?_
    intro wS5 hgS5 hzS5
    clear B6
    intro B6
    replace B4 := B4.keep hgS5 (by intro h; injection h with h; first | exact x6_4 h.symm | exact x4_6 h | omega)
    replace B5 := B5.keep hgS5 (by intro h; injection h with h; first | exact x6_5 h.symm | exact x5_6 h | omega)
    have g := g_only g hgS5 (by intro k hk; injection hk with hk; omega)
    refine sr_pu rfl (fun _ => rd_assign ev_c) ?_
    refine sr_nil (hK16 _ _ ?_)
    refine sc_ret (t_retv (rs := [.cell 6 67, .tmp 7]) (vs := [_, _]) rfl rfl (evr_c rfl agg_fold_constant rfl (by first | exact B4.row | exact B5.row | exact B6.row) (evr_t rfl (evr_nil))) rfl ?_)
    refine ⟨?_, g⟩
    unfold binF; simp only [h1, h2, h3, h4, h5, cond_true, cond_false]; rfl
  (try simp only [bsimp] at h3)
  refine sc_skip (hK8 _ _ ?_)
  refine sc_seq fun K17 hK17 => ?_
  refine sc_seq fun K18 hK18 => ?_
  refine sc_text [3] ?_
  refine sr_pu rfl (fun _ => rd_move (ev_t rfl)) ?_
  refine sr_nil (hK18 _ _ ?_)
  refine sc_block ?_
  refine sc_seq fun K19 hK19 => ?_
  refine sc_text [3, 3] ?_
  refine sr_pu rfl (fun _ => rd_seq (ev_t rfl) ev_c) ?_
  refine sr_pu rfl (fun _ => rd_assign (ev_t rfl)) ?_
  refine sr_nil (hK19 _ _ ?_)
  refine sc_sub [(0, _, _), (4, _, _), (5, _, _), (6, _, _), (7, _, _), (25, _, _), (26, _, _), (51, _, _), (52, _, _), (53, _, _)] (sub_cons rfl (sub_cons rfl (sub_cons rfl (sub_cons rfl (sub_cons rfl (sub_cons rfl (sub_cons rfl (sub_cons rfl (sub_cons rfl (sub_cons rfl (sub_nil _))))))))))) ?_
  refine sc_cond (ev_t rfl) (fun h6 => ?_) (fun h6 => ?_)
  · (try simp only [bsimp] at h6)
    refine sc_seq fun K20 hK20 => ?_
    refine sc_text [3, 0, 3, 0, 3, 3, 2, 3] ?_
    refine sr_pu rfl (fun _ => rd_field fo_fold_constant_1 (ev_t rfl)) ?_
    refine sr_rd rfl (rd_load one_int (ev_t rfl) (fun _ => B4.at_ rfl)) ?_
    refine sr_pu rfl (fun _ => rd_field fo_fold_constant_1 (ev_t rfl)) ?_
    refine sr_rd rfl (rd_load one_int (ev_t rfl) (fun _ => B5.at_ rfl)) ?_
    refine sr_pu rfl (fun _ => rd_addw (ev_t rfl) (ev_t rfl)) ?_
    refine sr_pu rfl (fun _ => rd_build [_, _] ze_fold_constant rfl pl_fold_constant (parts_cons (ev_t rfl) (parts_nil)) rfl) ?_
    refine sr_store_all rfl sz_fold_constant (ev_t rfl) (ev_t rfl) rfl rfl B6 rfl rfl ?_
    intro wS6 hgS6 hzS6
    clear B6
    intro B6
    replace B4 := B4.keep hgS6 (by intro h; injection h with h; first | exact x6_4 h.symm | exact x4_6 h | omega)
    replace B5 := B5.keep hgS6 (by intro h; injection h with h; first | exact x6_5 h.symm | exact x5_6 h | omega)
    have g := g_only g hgS6 (by intro k hk; injection hk with hk; omega)
    refine sr_pu rfl (fun _ => rd_assign ev_c) ?_
    refine sr_nil (hK20 _ _ ?_)
    refine sc_ret (t_retv (rs := [.cell 6 67, .tmp 7]) (vs := [_, _]) rfl rfl (evr_c rfl agg_fold_constant rfl (by first | exact B4.row | exact B5.row | exact B6.row) (evr_t rfl (evr_nil))) rfl ?_)
    refine ⟨?_, g⟩
    unfold binF; simp only [h1, h2, h3, h6, cond_true, cond_false]; rfl
  (try simp only [bsimp] at h6)
  refine sc_seq fun K21 hK21 => ?_
  refine sc_text [3, 3] ?_
  refine sr_pu rfl (fun _ => rd_seq (ev_t rfl) ev_c) ?_
  refine sr_pu rfl (fun _ => rd_assign (ev_t rfl)) ?_
  refine sr_nil (hK21 _ _ ?_)
  refine sc_sub [(0, _, _), (4, _, _), (5, _, _), (6, _, _), (7, _, _), (25, _, _), (26, _, _), (51, _, _), (52, _, _), (53, _, _), (60, _, _), (61, _, _)] (sub_cons rfl (sub_cons rfl (sub_cons rfl (sub_cons rfl (sub_cons rfl (sub_cons rfl (sub_cons rfl (sub_cons rfl (sub_cons rfl (sub_cons rfl (sub_cons rfl (sub_cons rfl (sub_nil _))))))))))))) ?_
  refine sc_cond (ev_t rfl) (fun h7 => ?_) (fun h7 => ?_)
  · (try simp only [bsimp] at h7)
    refine sc_seq fun K22 hK22 => ?_
    refine sc_text [3, 0, 3, 0, 3, 3, 2, 3] ?_
    refine sr_pu rfl (fun _ => rd_field fo_fold_constant_1 (ev_t rfl)) ?_
    refine sr_rd rfl (rd_load one_int (ev_t rfl) (fun _ => B4.at_ rfl)) ?_
    refine sr_pu rfl (fun _ => rd_field fo_fold_constant_1 (ev_t rfl)) ?_
    refine sr_rd rfl (rd_load one_int (ev_t rfl) (fun _ => B5.at_ rfl)) ?_
    refine sr_pu rfl (fun _ => rd_subw (ev_t rfl) (ev_t rfl)) ?_
    refine sr_pu rfl (fun _ => rd_build [_, _] ze_fold_constant rfl pl_fold_constant (parts_cons (ev_t rfl) (parts_nil)) rfl) ?_
    refine sr_store_all rfl sz_fold_constant (ev_t rfl) (ev_t rfl) rfl rfl B6 rfl rfl ?_
    intro wS7 hgS7 hzS7
    clear B6
    intro B6
    replace B4 := B4.keep hgS7 (by intro h; injection h with h; first | exact x6_4 h.symm | exact x4_6 h | omega)
    replace B5 := B5.keep hgS7 (by intro h; injection h with h; first | exact x6_5 h.symm | exact x5_6 h | omega)
    have g := g_only g hgS7 (by intro k hk; injection hk with hk; omega)
    refine sr_pu rfl (fun _ => rd_assign ev_c) ?_
    refine sr_nil (hK22 _ _ ?_)
    refine sc_ret (t_retv (rs := [.cell 6 67, .tmp 7]) (vs := [_, _]) rfl rfl (evr_c rfl agg_fold_constant rfl (by first | exact B4.row | exact B5.row | exact B6.row) (evr_t rfl (evr_nil))) rfl ?_)
    refine ⟨?_, g⟩
    unfold binF; simp only [h1, h2, h3, h6, h7, cond_true, cond_false]; rfl
  (try simp only [bsimp] at h7)
  refine sc_seq fun K23 hK23 => ?_
  refine sc_text [3, 3] ?_
  refine sr_pu rfl (fun _ => rd_seq (ev_t rfl) ev_c) ?_
  refine sr_pu rfl (fun _ => rd_assign (ev_t rfl)) ?_
  refine sr_nil (hK23 _ _ ?_)
  refine sc_sub [(0, _, _), (4, _, _), (5, _, _), (6, _, _), (7, _, _), (25, _, _), (26, _, _), (51, _, _), (52, _, _), (53, _, _), (60, _, _), (61, _, _), (68, _, _), (69, _, _)] (sub_cons rfl (sub_cons rfl (sub_cons rfl (sub_cons rfl (sub_cons rfl (sub_cons rfl (sub_cons rfl (sub_cons rfl (sub_cons rfl (sub_cons rfl (sub_cons rfl (sub_cons rfl (sub_cons rfl (sub_cons rfl (sub_nil _))))))))))))))) ?_
  refine sc_cond (ev_t rfl) (fun h8 => ?_) (fun h8 => ?_)
  · (try simp only [bsimp] at h8)
    refine sc_seq fun K24 hK24 => ?_
    refine sc_text [3, 0, 3, 0, 3, 3, 2, 3] ?_
    refine sr_pu rfl (fun _ => rd_field fo_fold_constant_1 (ev_t rfl)) ?_
    refine sr_rd rfl (rd_load one_int (ev_t rfl) (fun _ => B4.at_ rfl)) ?_
    refine sr_pu rfl (fun _ => rd_field fo_fold_constant_1 (ev_t rfl)) ?_
    refine sr_rd rfl (rd_load one_int (ev_t rfl) (fun _ => B5.at_ rfl)) ?_
    refine sr_pu rfl (fun _ => rd_mulw (ev_t rfl) (ev_t rfl)) ?_
    refine sr_pu rfl (fun _ => rd_build [_, _] ze_fold_constant rfl pl_fold_constant (parts_cons (ev_t rfl) (parts_nil)) rfl) ?_
    refine sr_store_all rfl sz_fold_constant (ev_t rfl) (ev_t rfl) rfl rfl B6 rfl rfl ?_
    intro wS8 hgS8 hzS8
    clear B6
    intro B6
    replace B4 := B4.keep hgS8 (by intro h; injection h with h; first | exact x6_4 h.symm | exact x4_6 h | omega)
    replace B5 := B5.keep hgS8 (by intro h; injection h with h; first | exact x6_5 h.symm | exact x5_6 h | omega)
    have g := g_only g hgS8 (by intro k hk; injection hk with hk; omega)
    refine sr_pu rfl (fun _ => rd_assign ev_c) ?_
    refine sr_nil (hK24 _ _ ?_)
    refine sc_ret (t_retv (rs := [.cell 6 67, .tmp 7]) (vs := [_, _]) rfl rfl (evr_c rfl agg_fold_constant rfl (by first | exact B4.row | exact B5.row | exact B6.row) (evr_t rfl (evr_nil))) rfl ?_)
    refine ⟨?_, g⟩
    unfold binF; simp only [h1, h2, h3, h6, h7, h8, cond_true, cond_false]; rfl
  (try simp only [bsimp] at h8)
  refine sc_seq fun K25 hK25 => ?_
  refine sc_text [3, 3] ?_
  refine sr_pu rfl (fun _ => rd_seq (ev_t rfl) ev_c) ?_
  refine sr_pu rfl (fun _ => rd_assign (ev_t rfl)) ?_
  refine sr_nil (hK25 _ _ ?_)
  refine sc_sub [(0, _, _), (4, _, _), (5, _, _), (6, _, _), (7, _, _), (25, _, _), (26, _, _), (51, _, _), (52, _, _), (53, _, _), (60, _, _), (61, _, _), (68, _, _), (69, _, _), (76, _, _), (77, _, _)] (sub_cons rfl (sub_cons rfl (sub_cons rfl (sub_cons rfl (sub_cons rfl (sub_cons rfl (sub_cons rfl (sub_cons rfl (sub_cons rfl (sub_cons rfl (sub_cons rfl (sub_cons rfl (sub_cons rfl (sub_cons rfl (sub_cons rfl (sub_cons rfl (sub_nil _))))))))))))))))) ?_
  refine sc_cond (ev_t rfl) (fun h9 => ?_) (fun h9 => ?_)
  · (try simp only [bsimp] at h9)
    refine sc_seq fun K26 hK26 => ?_
    refine sc_text [3, 0, 3] ?_
    refine sr_pu rfl (fun _ => rd_field fo_fold_constant_1 (ev_t rfl)) ?_
    refine sr_rd rfl (rd_load one_int (ev_t rfl) (fun _ => B5.at_ rfl)) ?_
    refine sr_pu rfl (fun _ => rd_ne (ev_t rfl) ev_c) ?_
    refine sr_nil (hK26 _ _ ?_)
    refine sc_cond (ev_t rfl) (fun h10 => ?_) (fun h10 => ?_)
    · (try simp only [bsimp] at h10)
      refine sc_seq fun K27 hK27 => ?_
      refine sc_text [3, 0, 3, 0, 3, 3, 2, 3] ?_
      refine sr_pu rfl (fun _ => rd_field fo_fold_constant_1 (ev_t rfl)) ?_
      refine sr_rd rfl (rd_load one_int (ev_t rfl) (fun _ => B4.at_ rfl)) ?_
      refine sr_pu rfl (fun _ => rd_field fo_fold_constant_1 (ev_t rfl)) ?_
      refine sr_rd rfl (rd_load one_int (ev_t rfl) (fun _ => B5.at_ rfl)) ?_
      refine sr_pu rfl (fun _ => rd_quow (ev_t rfl) (ev_t rfl) (fun hc => by simpa using h10)) ?_
      refine sr_pu rfl (fun _ => rd_build [_, _] ze_fold_constant rfl pl_fold_constant (parts_cons (ev_t rfl) (parts_nil)) rfl) ?_
      refine sr_store_all rfl sz_fold_constant (ev_t rfl) (ev_t rfl) rfl rfl B6 rfl rfl ?_
      intro wS9 hgS9 hzS9
      clear B6
      intro B6
      replace B4 := B4.keep hgS9 (by intro h; injection h with h; first | exact x6_4 h.symm | exact x4_6 h | omega)
      replace B5 := B5.keep hgS9 (by intro h; injection h with h; first | exact x6_5 h.symm | exact x5_6 h | omega)
      have g := g_only g hgS9 (by intro k hk; injection hk with hk; omega)
      refine sr_pu rfl (fun _ => rd_assign ev_c) ?_
      refine sr_nil (hK27 _ _ ?_)
      refine sc_ret (t_retv (rs := [.cell 6 67, .tmp 7]) (vs := [_, _]) rfl rfl (evr_c rfl agg_fold_constant rfl (by first | exact B4.row | exact B5.row | exact B6.row) (evr_t rfl (evr_nil))) rfl ?_)
      refine ⟨?_, g⟩
      unfold binF; simp only [h1, h2, h3, h6, h7, h8, h9, h10, cond_true, cond_false]; rfl
    (try simp only [bsimp] at h10)
    refine sc_skip (hK17 _ _ ?_)
    refine sc_seq fun K28 hK28 => ?_
    refine sc_text [3, 2, 3] ?_
    refine sr_pu rfl (fun _ => rd_build [_, _] ze_fold_constant rfl pl_fold_constant (parts_nil) rfl) ?_
    refine sr_store_all rfl sz_fold_constant (ev_t rfl) (ev_t rfl) rfl rfl B6 rfl rfl ?_
    intro wS10 hgS10 hzS10
    clear B6
    intro B6
    replace B4 := B4.keep hgS10 (by intro h; injection h with h; first | exact x6_4 h.symm | exact x4_6 h | omega)
    replace B5 := B5.keep hgS10 (by intro h; injection h with h; first | exact x6_5 h.symm | exact x5_6 h | omega)
    have g := g_only g hgS10 (by intro k hk; injection hk with hk; omega)
    refine sr_pu rfl (fun _ => rd_assign ev_c) ?_
    refine sr_nil (hK28 _ _ ?_)
    refine sc_ret (t_retv (rs := [.cell 6 67, .tmp 7]) (vs := [_, _]) rfl rfl (evr_c rfl agg_fold_constant rfl (by first | exact B4.row | exact B5.row | exact B6.row) (evr_t rfl (evr_nil))) rfl ?_)
    refine ⟨?_, g⟩
    unfold binF; simp only [h1, h2, h3, h6, h7, h8, h9, h10, cond_true, cond_false]; rfl
  (try simp only [bsimp] at h9)
  refine sc_seq fun K29 hK29 => ?_
  refine sc_text [3, 3] ?_
  refine sr_pu rfl (fun _ => rd_seq (ev_t rfl) ev_c) ?_
  refine sr_pu rfl (fun _ => rd_assign (ev_t rfl)) ?_
  refine sr_nil (hK29 _ _ ?_)
  refine sc_sub [(0, _, _), (4, _, _), (5, _, _), (6, _, _), (7, _, _), (25, _, _), (26, _, _), (51, _, _), (52, _, _), (53, _, _), (60, _, _), (61, _, _), (68, _, _), (69, _, _), (76, _, _), (77, _, _), (87, _, _), (88, _, _)] (sub_cons rfl (sub_cons rfl (sub_cons rfl (sub_cons rfl (sub_cons rfl (sub_cons rfl (sub_cons rfl (sub_cons rfl (sub_cons rfl (sub_cons rfl (sub_cons rfl (sub_cons rfl (sub_cons rfl (sub_cons rfl (sub_cons rfl (sub_cons rfl (sub_cons rfl (sub_cons rfl (sub_nil _))))))))))))))))))) ?_
  refine sc_cond (ev_t rfl) (fun h11 => ?_) (fun h11 => ?_)
  · (try simp only [bsimp] at h11)
    refine sc_seq fun K30 hK30 => ?_
    refine sc_text [3, 0, 3] ?_
    refine sr_pu rfl (fun _ => rd_field fo_fold_constant_1 (ev_t rfl)) ?_
    refine sr_rd rfl (rd_load one_int (ev_t rfl) (fun _ => B5.at_ rfl)) ?_
    refine sr_pu rfl (fun _ => rd_ne (ev_t rfl) ev_c) ?_
    refine sr_nil (hK30 _ _ ?_)
    refine sc_cond (ev_t rfl) (fun h12 => ?_) (fun h12 => ?_)
    · (try simp only [bsimp] at h12)
      refine sc_seq fun K31 hK31 => ?_
      refine sc_text [3, 0, 3, 0, 3, 3, 2, 3] ?_
      refine sr_pu rfl (fun _ => rd_field fo_fold_constant_1 (ev_t rfl)) ?_
      refine sr_rd rfl (rd_load one_int (ev_t rfl) (fun _ => B4.at_ rfl)) ?_
      refine sr_pu rfl (fun _ => rd_field fo_fold_constant_1 (ev_t rfl)) ?_
      refine sr_rd rfl (rd_load one_int (ev_t rfl) (fun _ => B5.at_ rfl)) ?_
      refine sr_pu rfl (fun _ => rd_remw (ev_t rfl) (ev_t rfl) (fun hc => by simpa using h12)) ?_
      refine sr_pu rfl (fun _ => rd_build [_, _] ze_fold_constant rfl pl_fold_constant (parts_cons (ev_t rfl) (parts_nil)) rfl) ?_
      refine sr_store_all rfl sz_fold_constant (ev_t rfl) (ev_t rfl) rfl rfl B6 rfl rfl ?_
      intro wS11 hgS11 hzS11
      clear B6
      intro B6
      replace B4 := B4.keep hgS11 (by intro h; injection h with h; first | exact x6_4 h.symm | exact x4_6 h | omega)
      replace B5 := B5.keep hgS11 (by intro h; injection h with h; first | exact x6_5 h.symm | exact x5_6 h | omega)
      have g := g_only g hgS11 (by intro k hk; injection hk with hk; omega)
      refine sr_pu rfl (fun _ => rd_assign ev_c) ?_
      refine sr_nil (hK31 _ _ ?_)
      refine sc_ret (t_retv (rs := [.cell 6 67, .tmp 7]) (vs := [_, _]) rfl rfl (evr_c rfl agg_fold_constant rfl (by first | exact B4.row | exact B5.row | exact B6.row) (evr_t rfl (evr_nil))) rfl ?_)
      refine ⟨?_, g⟩
      unfold binF; simp only [h1, h2, h3, h6, h7, h8, h9, h11, h12, cond_true, cond_false]; rfl
    (try simp only [bsimp] at h12)
    refine sc_skip (hK17 _ _ ?_)
    refine sc_seq fun K32 hK32 => ?_
    refine sc_text [3, 2, 3] ?_
    refine sr_pu rfl (fun _ => rd_build [_, _] ze_fold_constant rfl pl_fold_constant (parts_nil) rfl) ?_
    refine sr_store_all rfl sz_fold_constant (ev_t rfl) (ev_t rfl) rfl rfl B6 rfl rfl ?_
    intro wS12 hgS12 hzS12
    clear B6
    intro B6
    replace B4 := B4.keep hgS12 (by intro h; injection h with h; first | exact x6_4 h.symm | exact x4_6 h | omega)
    replace B5 := B5.keep hgS12 (by intro h; injection h with h; first | exact x6_5 h.symm | exact x5_6 h | omega)
    have g := g_only g hgS12 (by intro k hk; injection hk with hk; omega)
    refine sr_pu rfl (fun _ => rd_assign ev_c) ?_
    refine sr_nil (hK32 _ _ ?_)
    refine sc_ret (t_retv (rs := [.cell 6 67, .tmp 7]) (vs := [_, _]) rfl rfl (evr_c rfl agg_fold_constant rfl (by first | exact B4.row | exact B5.row | exact B6.row) (evr_t rfl (evr_nil))) rfl ?_)
    refine ⟨?_, g⟩
    unfold binF; simp only [h1, h2, h3, h6, h7, h8, h9, h11, h12, cond_true, cond_false]; rfl
  (try simp only [bsimp] at h11)
  refine sc_seq fun K33 hK33 => ?_
  refine sc_text [3, 3] ?_
  refine sr_pu rfl (fun _ => rd_seq (ev_t rfl) ev_c) ?_
  refine sr_pu rfl (fun _ => rd_assign (ev_t rfl)) ?_
  refine sr_nil (hK33 _ _ ?_)
  refine sc_sub [(0, _, _), (4, _, _), (5, _, _), (6, _, _), (7, _, _), (25, _, _), (26, _, _), (51, _, _), (52, _, _), (53, _, _), (60, _, _), (61, _, _), (68, _, _), (69, _, _), (76, _, _), (77, _, _), (87, _, _), (88, _, _), (98, _, _), (99, _, _)] (sub_cons rfl (sub_cons rfl (sub_cons rfl (sub_cons rfl (sub_cons rfl (sub_cons rfl (sub_cons rfl (sub_cons rfl (sub_cons rfl (sub_cons rfl (sub_cons rfl (sub_cons rfl (sub_cons rfl (sub_cons rfl (sub_cons rfl (sub_cons rfl (sub_cons rfl (sub_cons rfl (sub_cons rfl (sub_cons rfl (sub_nil _))))))))))))))))))))) ?_
  refine sc_cond (ev_t rfl) (fun h13 => ?_) (fun h13 => ?_)
  · (try simp only [bsimp] at h13)
    refine sc_seq fun K34 hK34 => ?_
    refine sc_text [3, 0, 3, 0, 3, 1, 2, 3] ?_
    refine sr_pu rfl (fun _ => rd_field fo_fold_constant_1 (ev_t rfl)) ?_
    refine sr_rd rfl (rd_load one_int (ev_t rfl) (fun _ => B4.at_ rfl)) ?_
    refine sr_pu rfl (fun _ => rd_field fo_fold_constant_1 (ev_t rfl)) ?_
    refine sr_rd rfl (rd_load one_int (ev_t rfl) (fun _ => B5.at_ rfl)) ?_
    refine sr_pu rfl (fun _ => rd_lt (ev_t rfl) (ev_t rfl)) ?_
    refine sr_pure rfl (rc_call go_fold_truth ev_f (args_cons (ev_t rfl) (args_nil)) rfl) (truth_ok _ _) (fun w105 g105 => ?_)
    have g := g.trans (g105)
    replace B4 := B4.grow (g105)
    replace B5 := B5.grow (g105)
    replace B6 := B6.grow (g105)
    refine sr_store_all rfl sz_fold_constant (ev_t rfl) (ev_t rfl) rfl rfl B6 rfl rfl ?_
    intro wS13 hgS13 hzS13
    clear B6
    intro B6
    replace B4 := B4.keep hgS13 (by intro h; injection h with h; first | exact x6_4 h.symm | exact x4_6 h | omega)
    replace B5 := B5.keep hgS13 (by intro h; injection h with h; first | exact x6_5 h.symm | exact x5_6 h | omega)
    have g := g_only g hgS13 (by intro k hk; injection hk with hk; omega)
    refine sr_pu rfl (fun _ => rd_assign ev_c) ?_
    refine sr_nil (hK34 _ _ ?_)
    refine sc_ret (t_retv (rs := [.cell 6 67, .tmp 7]) (vs := [_, _]) rfl rfl (evr_c rfl agg_fold_constant rfl (by first | exact B4.row | exact B5.row | exact B6.row) (evr_t rfl (evr_nil))) rfl ?_)
    refine ⟨?_, g⟩
    unfold binF; simp only [h1, h2, h3, h6, h7, h8, h9, h11, h13, cond_true, cond_false]; rfl
  (try simp only [bsimp] at h13)
  refine sc_seq fun K35 hK35 => ?_
  refine sc_text [3, 3] ?_
  refine sr_pu rfl (fun _ => rd_seq (ev_t rfl) ev_c) ?_
  refine sr_pu rfl (fun _ => rd_assign (ev_t rfl)) ?_
  refine sr_nil (hK35 _ _ ?_)
  refine sc_sub [(0, _, _), (4, _, _), (5, _, _), (6, _, _), (7, _, _), (25, _, _), (26, _, _), (51, _, _), (52, _, _), (53, _, _), (60, _, _), (61, _, _), (68, _, _), (69, _, _), (76, _, _), (77, _, _), (87, _, _), (88, _, _), (98, _, _), (99, _, _), (106, _, _), (107, _, _)] (sub_cons rfl (sub_cons rfl (sub_cons rfl (sub_cons rfl (sub_cons rfl (sub_cons rfl (sub_cons rfl (sub_cons rfl (sub_cons rfl (sub_cons rfl (sub_cons rfl (sub_cons rfl (sub_cons rfl (sub_cons rfl (sub_cons rfl (sub_cons rfl (sub_cons rfl (sub_cons rfl (sub_cons rfl (sub_cons rfl (sub_cons rfl (sub_cons rfl (sub_nil _))))))))))))))))))))))) ?_
  refine sc_cond (ev_t rfl) (fun h14 => ?_) (fun h14 => ?_)
  · (try simp only [bsimp] at h14)
    refine sc_seq fun K36 hK36 => ?_
    refine sc_text [3, 0, 3, 0, 3, 1, 2, 3] ?_
    refine sr_pu rfl (fun _ => rd_field fo_fold_constant_1 (ev_t rfl)) ?_
    refine sr_rd rfl (rd_load one_int (ev_t rfl) (fun _ => B4.at_ rfl)) ?_
    refine sr_pu rfl (fun _ => rd_field fo_fold_constant_1 (ev_t rfl)) ?_
    refine sr_rd rfl (rd_load one_int (ev_t rfl) (fun _ => B5.at_ rfl)) ?_
    refine sr_pu rfl (fun _ => rd_le (ev_t rfl) (ev_t rfl)) ?_
    refine sr_pure rfl (rc_call go_fold_truth ev_f (args_cons (ev_t rfl) (args_nil)) rfl) (truth_ok _ _) (fun w113 g113 => ?_)
    have g := g.trans (g113)
    replace B4 := B4.grow (g113)
    replace B5 := B5.grow (g113)
    replace B6 := B6.grow (g113)
    refine sr_store_all rfl sz_fold_constant (ev_t rfl) (ev_t rfl) rfl rfl B6 rfl rfl ?_
    intro wS14 hgS14 hzS14
    clear B6
    intro B6
    replace B4 := B4.keep hgS14 (by intro h; injection h with h; first | exact x6_4 h.symm | exact x4_6 h | omega)
    replace B5 := B5.keep hgS14 (by intro h; injection h with h; first | exact x6_5 h.symm | exact x5_6 h | omega)
    have g := g_only g hgS14 (by intro k hk; injection hk with hk; omega)
    refine sr_pu rfl (fun _ => rd_assign ev_c) ?_
    refine sr_nil (hK36 _ _ ?_)
    refine sc_ret (t_retv (rs := [.cell 6 67, .tmp 7]) (vs := [_, _]) rfl rfl (evr_c rfl agg_fold_constant rfl (by first | exact B4.row | exact B5.row | exact B6.row) (evr_t rfl (evr_nil))) rfl ?_)
    refine ⟨?_, g⟩
    unfold binF; simp only [h1, h2, h3, h6, h7, h8, h9, h11, h13, h14, cond_true, cond_false]; rfl
  (try simp only [bsimp] at h14)
  refine sc_seq fun K37 hK37 => ?_
  refine sc_text [3, 3] ?_
  refine sr_pu rfl (fun _ => rd_seq (ev_t rfl) ev_c) ?_
  refine sr_pu rfl (fun _ => rd_assign (ev_t rfl)) ?_
  refine sr_nil (hK37 _ _ ?_)
  refine sc_sub [(0, _, _), (4, _, _), (5, _, _), (6, _, _), (7, _, _), (25, _, _), (26, _, _), (51, _, _), (52, _, _), (53, _, _), (60, _, _), (61, _, _), (68, _, _), (69, _, _), (76, _, _), (77, _, _), (87, _, _), (88, _, _), (98, _, _), (99, _, _), (106, _, _), (107, _, _), (114, _, _), (115, _, _)] (sub_cons rfl (sub_cons rfl (sub_cons rfl (sub_cons rfl (sub_cons rfl (sub_cons rfl (sub_cons rfl (sub_cons rfl (sub_cons rfl (sub_cons rfl (sub_cons rfl (sub_cons rfl (sub_cons rfl (sub_cons rfl (sub_cons rfl (sub_cons rfl (sub_cons rfl (sub_cons rfl (sub_cons rfl (sub_cons rfl (sub_cons rfl (sub_cons rfl (sub_cons rfl (sub_cons rfl (sub_nil _))))))))))))))))))))))))) ?_
  refine sc_cond (ev_t rfl) (fun h15 => ?_) (fun h15 => ?_)
  · (try simp only [bsimp] at h15)
    refine sc_seq fun K38 hK38 => ?_
    refine sc_text [3, 0, 3, 0, 3, 1, 2, 3] ?_
    refine sr_pu rfl (fun _ => rd_field fo_fold_constant_1 (ev_t rfl)) ?_
    refine sr_rd rfl (rd_load one_int (ev_t rfl) (fun _ => B4.at_ rfl)) ?_
    refine sr_pu rfl (fun _ => rd_field fo_fold_constant_1 (ev_t rfl)) ?_
    refine sr_rd rfl (rd_load one_int (ev_t rfl) (fun _ => B5.at_ rfl)) ?_
    refine sr_pu rfl (fun _ => rd_gt (ev_t rfl) (ev_t rfl)) ?_
    refine sr_pure rfl (rc_call go_fold_truth ev_f (args_cons (ev_t rfl) (args_nil)) rfl) (truth_ok _ _) (fun w121 g121 => ?_)
    have g := g.trans (g121)
    replace B4 := B4.grow (g121)
    replace B5 := B5.grow (g121)
    replace B6 := B6.grow (g121)
    refine sr_store_all rfl sz_fold_constant (ev_t rfl) (ev_t rfl) rfl rfl B6 rfl rfl ?_
    intro wS15 hgS15 hzS15
    clear B6
    intro B6
    replace B4 := B4.keep hgS15 (by intro h; injection h with h; first | exact x6_4 h.symm | exact x4_6 h | omega)
    replace B5 := B5.keep hgS15 (by intro h; injection h with h; first | exact x6_5 h.symm | exact x5_6 h | omega)
    have g := g_only g hgS15 (by intro k hk; injection hk with hk; omega)
    refine sr_pu rfl (fun _ => rd_assign ev_c) ?_
    refine sr_nil (hK38 _ _ ?_)
    refine sc_ret (t_retv (rs := [.cell 6 67, .tmp 7]) (vs := [_, _]) rfl rfl (evr_c rfl agg_fold_constant rfl (by first | exact B4.row | exact B5.row | exact B6.row) (evr_t rfl (evr_nil))) rfl ?_)
    refine ⟨?_, g⟩
    unfold binF; simp only [h1, h2, h3, h6, h7, h8, h9, h11, h13, h14, h15, cond_true, cond_false]; rfl
  (try simp only [bsimp] at h15)
  refine sc_seq fun K39 hK39 => ?_
  refine sc_text [3, 3] ?_
  refine sr_pu rfl (fun _ => rd_seq (ev_t rfl) ev_c) ?_
  refine sr_pu rfl (fun _ => rd_assign (ev_t rfl)) ?_
  refine sr_nil (hK39 _ _ ?_)
  refine sc_sub [(0, _, _), (4, _, _), (5, _, _), (6, _, _), (7, _, _), (25, _, _), (26, _, _), (51, _, _), (52, _, _), (53, _, _), (60, _, _), (61, _, _), (68, _, _), (69, _, _), (76, _, _), (77, _, _), (87, _, _), (88, _, _), (98, _, _), (99, _, _), (106, _, _), (107, _, _), (114, _, _), (115, _, _), (122, _, _), (123, _, _)] (sub_cons rfl (sub_cons rfl (sub_cons rfl (sub_cons rfl (sub_cons rfl (sub_cons rfl (sub_cons rfl (sub_cons rfl (sub_cons rfl (sub_cons rfl (sub_cons rfl (sub_cons rfl (sub_cons rfl (sub_cons rfl (sub_cons rfl (sub_cons rfl (sub_cons rfl (sub_cons rfl (sub_cons rfl (sub_cons rfl (sub_cons rfl (sub_cons rfl (sub_cons rfl (sub_cons rfl (sub_cons rfl (sub_cons rfl (sub_nil _))))))))))))))))))))))))))) ?_
  refine sc_cond (ev_t rfl) (fun h16 => ?_) (fun h16 => ?_)
  · (try simp only [bsimp] at h16)
    refine sc_seq fun K40 hK40 => ?_
    refine sc_text [3, 0, 3, 0, 3, 1, 2, 3] ?_
    refine sr_pu rfl (fun _ => rd_field fo_fold_constant_1 (ev_t rfl)) ?_
    refine sr_rd rfl (rd_load one_int (ev_t rfl) (fun _ => B4.at_ rfl)) ?_
    refine sr_pu rfl (fun _ => rd_field fo_fold_constant_1 (ev_t rfl)) ?_
    refine sr_rd rfl (rd_load one_int (ev_t rfl) (fun _ => B5.at_ rfl)) ?_
    refine sr_pu rfl (fun _ => rd_ge (ev_t rfl) (ev_t rfl)) ?_
    refine sr_pure rfl (rc_call go_fold_truth ev_f (args_cons (ev_t rfl) (args_nil)) rfl) (truth_ok _ _) (fun w129 g129 => ?_)
    have g := g.trans (g129)
    replace B4 := B4.grow (g129)
    replace B5 := B5.grow (g129)
    replace B6 := B6.grow (g129)
    refine sr_store_all rfl sz_fold_constant (ev_t rfl) (ev_t rfl) rfl rfl B6 rfl rfl ?_
    intro wS16 hgS16 hzS16
    clear B6
    intro B6
    replace B4 := B4.keep hgS16 (by intro h; injection h with h; first | exact x6_4 h.symm | exact x4_6 h | omega)
    replace B5 := B5.keep hgS16 (by intro h; injection h with h; first | exact x6_5 h.symm | exact x5_6 h | omega)
    have g := g_only g hgS16 (by intro k hk; injection hk with hk; omega)
    refine sr_pu rfl (fun _ => rd_assign ev_c) ?_
    refine sr_nil (hK40 _ _ ?_)
    refine sc_ret (t_retv (rs := [.cell 6 67, .tmp 7]) (vs := [_, _]) rfl rfl (evr_c rfl agg_fold_constant rfl (by first | exact B4.row | exact B5.row | exact B6.row) (evr_t rfl (evr_nil))) rfl ?_)
    refine ⟨?_, g⟩
    unfold binF; simp only [h1, h2, h3, h6, h7, h8, h9, h11, h13, h14, h15, h16, cond_true, cond_false]; rfl
  (try simp only [bsimp] at h16)
  refine sc_skip (hK17 _ _ ?_)
  refine sc_seq fun K41 hK41 => ?_
  refine sc_text [3, 2, 3] ?_
  refine sr_pu rfl (fun _ => rd_build [_, _] ze_fold_constant rfl pl_fold_constant (parts_nil) rfl) ?_
  refine sr_store_all rfl sz_fold_constant (ev_t rfl) (ev_t rfl) rfl rfl B6 rfl rfl ?_
  intro wS17 hgS17 hzS17
  clear B6
  intro B6
  replace B4 := B4.keep hgS17 (by intro h; injection h with h; first | exact x6_4 h.symm | exact x4_6 h | omega)
  replace B5 := B5.keep hgS17 (by intro h; injection h with h; first | exact x6_5 h.symm | exact x5_6 h | omega)
  have g := g_only g hgS17 (by intro k hk; injection hk with hk; omega)
  refine sr_pu rfl (fun _ => rd_assign ev_c) ?_
  refine sr_nil (hK41 _ _ ?_)
  refine sc_ret (t_retv (rs := [.cell 6 67, .tmp 7]) (vs := [_, _]) rfl rfl (evr_c rfl agg_fold_constant rfl (by first | exact B4.row | exact B5.row | exact B6.row) (evr_t rfl (evr_nil))) rfl ?_)
  refine ⟨?_, g⟩
  unfold binF; simp only [h1, h2, h3, h6, h7, h8, h9, h11, h13, h14, h15, h16, cond_true, cond_false]; rfl
/-- The value of a constant expression, as the program finds it. -/
def valF (t : Nd) (r : Nat → Cst × Bool) : Cst × Bool :=
  bif decide (t.kind = 24) then ((false, t.num), (decide (0 ≤ t.num) && plainB t) && lenK t 0)
  else bif decide (t.kind = 25) then ((true, t.num), ((decide (t.num = 0) || decide (t.num = 1)) && plainB t) && lenK t 0)
  else bif decide (t.kind = 31) && lenK t 1 then
    bif ((r 0).2 && decide (t.text = [45])) && !(r 0).1.1 then nmC (IntKind.i64.wrap (0 - (r 0).1.2))
    else bif ((r 0).2 && decide (t.text = [33])) && (r 0).1.1 then ((true, IntKind.i64.wrap (1 - (r 0).1.2)), true)
    else zc
  else bif decide (t.kind = 32) && lenK t 2 then
    bif ((r 0).2 && (r 1).2) && ((r 0).1.1 == (r 1).1.1) then binF t.text (r 0).1 (r 1).1
    else zc
  else zc
def valC (t : Nd) : Cst × Bool := para (fun t l => valF t fun i => l.getD i zc) t
theorem getD_map' {α β : Type} (f : α → β) (l : List α) (i : Nat) (d : α) : (l.map f).getD i (f d) = f (l.getD i d) := by
  simp only [List.getD_eq_getElem?_getD, List.getElem?_map]; cases l[i]? <;> rfl
theorem valC_nd0 : valC nd0 = zc := by rw [valC, para_eq]; rfl
theorem valC_eq (t : Nd) : valC t = valF t fun i => valC (kidAt t i) := by
  have h : ∀ i, (t.kids.map (para (fun t l => valF t fun i => l.getD i zc))).getD i zc = valC (kidAt t i) := fun i => by
    have := getD_map' valC t.kids i nd0
    rw [valC_nd0] at this; exact this
  rw [valC, para_eq]
  exact congrArg (valF t) (funext h)
theorem fvalue_ok : ∀ (t : Nd) (v : Value) (D : Nat → Prop) (w : World), Kd w D t.kids v → Ret PP fn_fold_value #[ndV t v] w fun r w' => r = .tuple #[conV (valC t).1, .bool (valC t).2] ∧ G w w' := by
  refine Nd.ind fun t ih v D w hk => ?_
  obtain ⟨p, c, rfl, hcap, hks⟩ := hk
  have hk0 : Kd w D t.kids (.slice p t.kids.length c) := ⟨p, c, rfl, hcap, hks⟩
  rw [valC_eq]
  have g := G.refl w
  refine ret_of_sc (m := 149) func_fold_value rfl rfl [(0, True, _)] (sub_cons rfl (sub_nil _)) ?_
  refine sc_seq fun K1 hK1 => ?_
  refine sc_text [1, 1, 3] ?_
  refine sr_box rfl (ev_t rfl) rfl ?_
  intro b1 w1 N1
  have l1 := N1.ge g
  have g := g.trans (N1.g)
  have B1 := N1.blk
  refine sr_alloc rfl ze_fold_constant rfl ?_
  intro b2 w2 N2
  have x2_1 := N2.ne B1
  have l2 := N2.ge g
  have g := g.trans (N2.g)
  replace B1 := B1.grow (N2.g)
  have B2 := N2.blk
  refine sr_pu rfl (fun _ => rd_assign ev_c) ?_
  refine sr_sub [(1, _, _), (2, _, _), (3, _, _)] (sub_cons rfl (sub_cons rfl (sub_cons rfl (sub_nil _)))) ?_
  refine sr_nil (hK1 _ _ ?_)
  refine sc_seq fun K2 hK2 => ?_
  refine sc_block ?_
  refine sc_seq fun K3 hK3 => ?_
  refine sc_text [3, 0, 3, 3] ?_
  refine sr_pu rfl (fun _ => rd_field fo_api_Node_0 (ev_t rfl)) ?_
  refine sr_rd rfl (rd_load one_int (ev_t rfl) (fun _ => B1.at_ rfl)) ?_
  refine sr_pu rfl (fun _ => rd_eq (ev_t rfl) ev_c) ?_
  refine sr_pu rfl (fun _ => rd_assign (ev_t rfl)) ?_
  refine sr_sub [(1, _, _), (2, _, _), (3, _, _), (10, _, _)] (sub_cons rfl (sub_cons rfl (sub_cons rfl (sub_cons rfl (sub_nil _))))) ?_
  refine sr_nil (hK3 _ _ ?_)
  refine sc_cond (ev_t rfl) (fun h1 => ?_) (fun h1 => ?_)
  · (try simp only [bsimp] at h1)
    refine sc_seq fun K4 hK4 => ?_
    refine sc_drawT (some b2) [3, 0, 3, 3, 0, 3, 3, 3, 0, 3, 3, 3, 3, 0, 3, 3, 3, 1, 3] [0, 1, 3, 0, 8, 24, 56, 120, 248, 504, 1016, 2040, 4088, 8184, 16376, 32760, 65528, 4095, 262143] mix (by kernel_rfl) [0, 1, 2, 3, 4, 5, 6, 7, 8, 9, 10, 11, 12, 13, 14, 15, 16, 17, 18] rfl ?_
    have g := g.trans (G.drew _)
    replace B1 := B1.grow (G.drew _)
    replace B2 := B2.grow (G.drew _)
    refine st_pu (L' := [1, 2, 3, 4, 5, 6, 7, 8, 9, 10, 11, 12, 13, 14, 15, 16, 17, 18]) 0 rfl rfl rfl (fun _ => rd_field fo_api_Node_2 (ev_t rfl)) ?_
    refine st_rd (L' := [2, 3, 4, 5, 6, 7, 8, 9, 10, 11, 12, 13, 14, 15, 16, 17, 18]) 1 rfl rfl rfl (fun w1 hx => rd_load one_int (ev_t rfl) (fun _ => (B1.keep hx (by intro h; first | (injection h with h; omega) | cases h)).at_ rfl)) ?_
    refine st_pu (L' := [3, 4, 5, 6, 7, 8, 9, 10, 11, 12, 13, 14, 15, 16, 17, 18]) 2 rfl rfl rfl (fun _ => rd_build [_, _] ze_fold_constant rfl pl_fold_constant (parts_cons (ev_t rfl) (parts_nil)) rfl) ?_
    refine st_pu (L' := [4, 5, 6, 7, 8, 9, 10, 11, 12, 13, 14, 15, 16, 17, 18]) 3 rfl rfl rfl (fun _ => rd_field fo_api_Node_2 (ev_t rfl)) ?_
    refine st_rd (L' := [5, 6, 7, 8, 9, 10, 11, 12, 13, 14, 15, 16, 17, 18]) 4 rfl rfl rfl (fun w1 hx => rd_load one_int (ev_t rfl) (fun _ => (B1.keep hx (by intro h; first | (injection h with h; omega) | cases h)).at_ rfl)) ?_
    refine st_pu (L' := [6, 7, 8, 9, 10, 11, 12, 13, 14, 15, 16, 17, 18]) 5 rfl rfl rfl (fun _ => rd_ge (ev_t rfl) ev_c) ?_
    refine st_pu (L' := [7, 8, 9, 10, 11, 12, 13, 14, 15, 16, 17, 18]) 6 rfl rfl rfl (fun _ => rd_move (ev_t rfl)) ?_
    refine st_pug (L' := [8, 9, 10, 11, 12, 13, 14, 15, 16, 17, 18]) 7 rfl rfl rfl rfl rfl (fun _ => rd_field fo_api_Node_1 (ev_t rfl)) ?_
    refine st_rdg (L' := [9, 10, 11, 12, 13, 14, 15, 16, 17, 18]) 8 rfl rfl rfl rfl rfl (fun w1 hx => rd_load one_string (ev_u rfl id) (fun _ => (B1.keep hx (by intro h; first | (injection h with h; omega) | cases h)).at_ rfl)) ?_
    refine st_pug (L' := [10, 11, 12, 13, 14, 15, 16, 17, 18]) 9 rfl rfl rfl rfl rfl (fun _ => rd_seq (ev_u rfl id) ev_c) ?_
    refine st_pu (L' := [11, 12, 13, 14, 15, 16, 17, 18]) 10 rfl rfl rfl (fun _ => rd_pick_and (ev_t rfl) (ev_u rfl id)) ?_
    refine st_pu (L' := [12, 13, 14, 15, 16, 17, 18]) 11 rfl rfl rfl (fun _ => rd_move (ev_t rfl)) ?_
    refine st_pug (L' := [13, 14, 15, 16, 17, 18]) 12 rfl rfl rfl rfl rfl (fun _ => rd_field fo_api_Node_4 (ev_t rfl)) ?_
    refine st_rdg (L' := [14, 15, 16, 17, 18]) 13 rfl rfl rfl rfl rfl (fun w1 hx => rd_load one_sl_api_Node (ev_u rfl id) (fun _ => (B1.keep hx (by intro h; first | (injection h with h; omega) | cases h)).at_ rfl)) ?_
    refine st_pug (L' := [15, 16, 17, 18]) 14 rfl rfl rfl rfl rfl (fun _ => rd_len el_sl_api_Node (ev_u rfl id)) ?_
    refine st_pug (L' := [16, 17, 18]) 15 rfl rfl rfl rfl rfl (fun _ => rd_eq (ev_u rfl id) ev_c) ?_
    refine st_pu (L' := [17, 18]) 16 rfl rfl rfl (fun _ => rd_pick_and (ev_t rfl) (ev_u rfl id)) ?_
    refine st_eff1 17 rfl rfl ?_
    refine ste_of_sr (L' := [18]) [3, 0, 3, 3, 0, 3, 3, 3, 0, 3, 3, 3, 3, 0, 3, 3, 3, 2, 3] rfl rfl rfl ?_
    refine sr_store_all rfl sz_fold_constant (ev_t rfl) (ev_t rfl) rfl rfl B2 rfl rfl ?_
    intro wS1 hgS1 hzS1
    clear B2
    intro B2
    replace B1 := B1.keep hgS1 (by intro h; injection h with h; first | exact x2_1 h.symm | exact x1_2 h | omega)
    have g := g_only g hgS1 (by intro k hk; injection hk with hk; omega)
    refine sr_nilT (hgS1) ?_
    refine st_pu (L' := []) 18 rfl rfl rfl (fun _ => rd_assign (ev_t rfl)) ?_
    refine st_sub [(2, _, _), (3, _, _)] (sub_cons rfl (sub_cons rfl (sub_nil _))) ?_
    refine st_nil (hK4 _ _ ?_)
    refine sc_ret (t_retv (rs := [.cell 2 67, .tmp 3]) (vs := [_, _]) rfl rfl (evr_c rfl agg_fold_constant rfl (by first | exact B1.row | exact B2.row) (evr_t rfl (evr_nil))) rfl ?_)
    refine ⟨?_, g⟩
    unfold valF; simp only [lenK, h1, cond_true, cond_false] <;> rfl
  (try simp only [bsimp] at h1)
  refine sc_seq fun K5 hK5 => ?_
  refine sc_text [3, 0, 3, 3] ?_
  refine sr_pu rfl (fun _ => rd_field fo_api_Node_0 (ev_t rfl)) ?_
  refine sr_rd rfl (rd_load one_int (ev_t rfl) (fun _ => B1.at_ rfl)) ?_
  refine sr_pu rfl (fun _ => rd_eq (ev_t rfl) ev_c) ?_
  refine sr_pu rfl (fun _ => rd_assign (ev_t rfl)) ?_
  refine sr_sub [(1, _, _), (2, _, _), (3, _, _), (31, _, _)] (sub_cons rfl (sub_cons rfl (sub_cons rfl (sub_cons rfl (sub_nil _))))) ?_
  refine sr_nil (hK5 _ _ ?_)
  refine sc_cond (ev_t rfl) (fun h2 => ?_) (fun h2 => ?_)
  · (try simp only [bsimp] at h2)
    refine sc_seq fun K6 hK6 => ?_
    refine sc_drawT (some b2) [3, 0, 3, 3, 0, 3, 3, 3, 0, 3, 3, 3, 3, 0, 3, 3, 3, 3, 0, 3, 3, 3, 1, 3] [0, 1, 3, 0, 8, 24, 56, 120, 248, 504, 1016, 2040, 4088, 8184, 16376, 32760, 65528, 131064, 262136, 524280, 1048568, 2097144, 131071, 8388607] mix (by kernel_rfl) [0, 1, 2, 3, 4, 5, 6, 7, 8, 9, 10, 11, 12, 13, 14, 15, 16, 17, 18, 19, 20, 21, 22, 23] rfl ?_
    have g := g.trans (G.drew _)
    replace B1 := B1.grow (G.drew _)
    replace B2 := B2.grow (G.drew _)
    refine st_pu (L' := [1, 2, 3, 4, 5, 6, 7, 8, 9, 10, 11, 12, 13, 14, 15, 16, 17, 18, 19, 20, 21, 22, 23]) 0 rfl rfl rfl (fun _ => rd_field fo_api_Node_2 (ev_t rfl)) ?_
    refine st_rd (L' := [2, 3, 4, 5, 6, 7, 8, 9, 10, 11, 12, 13, 14, 15, 16, 17, 18, 19, 20, 21, 22, 23]) 1 rfl rfl rfl (fun w1 hx => rd_load one_int (ev_t rfl) (fun _ => (B1.keep hx (by intro h; first | (injection h with h; omega) | cases h)).at_ rfl)) ?_
    refine st_pu (L' := [3, 4, 5, 6, 7, 8, 9, 10, 11, 12, 13, 14, 15, 16, 17, 18, 19, 20, 21, 22, 23]) 2 rfl rfl rfl (fun _ => rd_build [_, _] ze_fold_constant rfl pl_fold_constant (parts_cons ev_c (parts_cons (ev_t rfl) (parts_nil))) rfl) ?_
    refine st_pu (L' := [4, 5, 6, 7, 8, 9, 10, 11, 12, 13, 14, 15, 16, 17, 18, 19, 20, 21, 22, 23]) 3 rfl rfl rfl (fun _ => rd_field fo_api_Node_2 (ev_t rfl)) ?_
    refine st_rd (L' := [5, 6, 7, 8, 9, 10, 11, 12, 13, 14, 15, 16, 17, 18, 19, 20, 21, 22, 23]) 4 rfl rfl rfl (fun w1 hx => rd_load one_int (ev_t rfl) (fun _ => (B1.keep hx (by intro h; first | (injection h with h; omega) | cases h)).at_ rfl)) ?_
    refine st_pu (L' := [6, 7, 8, 9, 10, 11, 12, 13, 14, 15, 16, 17, 18, 19, 20, 21, 22, 23]) 5 rfl rfl rfl (fun _ => rd_eq (ev_t rfl) ev_c) ?_
    refine st_pu (L' := [7, 8, 9, 10, 11, 12, 13, 14, 15, 16, 17, 18, 19, 20, 21, 22, 23]) 6 rfl rfl rfl (fun _ => rd_move (ev_t rfl)) ?_
    refine st_pug (L' := [8, 9, 10, 11, 12, 13, 14, 15, 16, 17, 18, 19, 20, 21, 22, 23]) 7 rfl rfl rfl rfl rfl (fun _ => rd_field fo_api_Node_2 (ev_t rfl)) ?_
    refine st_rdg (L' := [9, 10, 11, 12, 13, 14, 15, 16, 17, 18, 19, 20, 21, 22, 23]) 8 rfl rfl rfl rfl rfl (fun w1 hx => rd_load one_int (ev_u rfl id) (fun _ => (B1.keep hx (by intro h; first | (injection h with h; omega) | cases h)).at_ rfl)) ?_
    refine st_pug (L' := [10, 11, 12, 13, 14, 15, 16, 17, 18, 19, 20, 21, 22, 23]) 9 rfl rfl rfl rfl rfl (fun _ => rd_eq (ev_u rfl id) ev_c) ?_
    refine st_pu (L' := [11, 12, 13, 14, 15, 16, 17, 18, 19, 20, 21, 22, 23]) 10 rfl rfl rfl (fun _ => rd_pick_or (ev_t rfl) (ev_u rfl id)) ?_
    refine st_pu (L' := [12, 13, 14, 15, 16, 17, 18, 19, 20, 21, 22, 23]) 11 rfl rfl rfl (fun _ => rd_move (ev_t rfl)) ?_
    refine st_pug (L' := [13, 14, 15, 16, 17, 18, 19, 20, 21, 22, 23]) 12 rfl rfl rfl rfl rfl (fun _ => rd_field fo_api_Node_1 (ev_t rfl)) ?_
    refine st_rdg (L' := [14, 15, 16, 17, 18, 19, 20, 21, 22, 23]) 13 rfl rfl rfl rfl rfl (fun w1 hx => rd_load one_string (ev_u rfl id) (fun _ => (B1.keep hx (by intro h; first | (injection h with h; omega) | cases h)).at_ rfl)) ?_
    refine st_pug (L' := [15, 16, 17, 18, 19, 20, 21, 22, 23]) 14 rfl rfl rfl rfl rfl (fun _ => rd_seq (ev_u rfl id) ev_c) ?_
    refine st_pu (L' := [16, 17, 18, 19, 20, 21, 22, 23]) 15 rfl rfl rfl (fun _ => rd_pick_and (ev_t rfl) (ev_u rfl id)) ?_
    refine st_pu (L' := [17, 18, 19, 20, 21, 22, 23]) 16 rfl rfl rfl (fun _ => rd_move (ev_t rfl)) ?_
    refine st_pug (L' := [18, 19, 20, 21, 22, 23]) 17 rfl rfl rfl rfl rfl (fun _ => rd_field fo_api_Node_4 (ev_t rfl)) ?_
    refine st_rdg (L' := [19, 20, 21, 22, 23]) 18 rfl rfl rfl rfl rfl (fun w1 hx => rd_load one_sl_api_Node (ev_u rfl id) (fun _ => (B1.keep hx (by intro h; first | (injection h with h; omega) | cases h)).at_ rfl)) ?_
    refine st_pug (L' := [20, 21, 22, 23]) 19 rfl rfl rfl rfl rfl (fun _ => rd_len el_sl_api_Node (ev_u rfl id)) ?_
    refine st_pug (L' := [21, 22, 23]) 20 rfl rfl rfl rfl rfl (fun _ => rd_eq (ev_u rfl id) ev_c) ?_
    refine st_pu (L' := [22, 23]) 21 rfl rfl rfl (fun _ => rd_pick_and (ev_t rfl) (ev_u rfl id)) ?_
    refine st_eff1 22 rfl rfl ?_
    refine ste_of_sr (L' := [23]) [3, 0, 3, 3, 0, 3, 3, 3, 0, 3, 3, 3, 3, 0, 3, 3, 3, 3, 0, 3, 3, 3, 2, 3] rfl rfl rfl ?_
    refine sr_store_all rfl sz_fold_constant (ev_t rfl) (ev_t rfl) rfl rfl B2 rfl rfl ?_
    intro wS2 hgS2 hzS2
    clear B2
    intro B2
    replace B1 := B1.keep hgS2 (by intro h; injection h with h; first | exact x2_1 h.symm | exact x1_2 h | omega)
    have g := g_only g hgS2 (by intro k hk; injection hk with hk; omega)
    refine sr_nilT (hgS2) ?_
    refine st_pu (L' := []) 23 rfl rfl rfl (fun _ => rd_assign (ev_t rfl)) ?_
    refine st_sub [(2, _, _), (3, _, _)] (sub_cons rfl (sub_cons rfl (sub_nil _))) ?_
    refine st_nil (hK6 _ _ ?_)
    refine sc_ret (t_retv (rs := [.cell 2 67, .tmp 3]) (vs := [_, _]) rfl rfl (evr_c rfl agg_fold_constant rfl (by first | exact B1.row | exact B2.row) (evr_t rfl (evr_nil))) rfl ?_)
    refine ⟨?_, g⟩
    unfold valF; simp only [lenK, h1, h2, cond_true, cond_false] <;> rfl
  (try simp only [bsimp] at h2)
  refine sc_seq fun K7 hK7 => ?_
  refine sc_text [3, 0, 3, 3, 3, 0, 3, 3, 3, 3] ?_
  refine sr_pu rfl (fun _ => rd_field fo_api_Node_0 (ev_t rfl)) ?_
  refine sr_rd rfl (rd_load one_int (ev_t rfl) (fun _ => B1.at_ rfl)) ?_
  refine sr_pu rfl (fun _ => rd_eq (ev_t rfl) ev_c) ?_
  refine sr_pu rfl (fun _ => rd_move (ev_t rfl)) ?_
  refine sr_pug rfl rfl rfl (fun _ => rd_field fo_api_Node_4 (ev_t rfl)) ?_
  refine sr_rdg rfl rfl rfl (rd_load one_sl_api_Node (ev_u rfl id) (fun _ => B1.at_ rfl)) ?_
  refine sr_pug rfl rfl rfl (fun _ => rd_len el_sl_api_Node (ev_u rfl id)) ?_
  refine sr_pug rfl rfl rfl (fun _ => rd_eq (ev_u rfl id) ev_c) ?_
  refine sr_pu rfl (fun _ => rd_pick_and (ev_t rfl) (ev_u rfl id)) ?_
  refine sr_pu rfl (fun _ => rd_assign (ev_t rfl)) ?_
  refine sr_sub [(1, _, _), (2, _, _), (3, _, _), (57, _, _)] (sub_cons rfl (sub_cons rfl (sub_cons rfl (sub_cons rfl (sub_nil _))))) ?_
  refine sr_nil (hK7 _ _ ?_)
  refine sc_cond (ev_t rfl) (fun h3 => ?_) (fun h3 => ?_)
  · have hl : t.kids.length = 1 := by (have hz := h3; first | (unfold lenK at hz; simp at hz; omega) | (simp at hz; omega))
    obtain ⟨hpe, p0, c0, hcell0, hkid0⟩ := kd_opt hk0 (i := 0) (by omega)
    have e0 := kidAt_eq (show 0 < t.kids.length by omega)
    refine sc_seq fun K8 hK8 => ?_
    refine sc_text [3, 0, 3, 0, 1, 3, 3, 3, 1, 2, 3] ?_
    refine sr_pu rfl (fun _ => rd_field fo_api_Node_4 (ev_t rfl)) ?_
    refine sr_rd rfl (rd_load one_sl_api_Node (ev_t rfl) (fun _ => B1.at_ rfl)) ?_
    refine sr_pu rfl (fun _ => rd_idxq el_sl_api_Node (ev_t rfl) ev_c (fun _ => by omega) (fun _ => hpe)) ?_
    refine sr_rd rfl (rd_loads agg_api_Node (ev_t rfl) rfl (fun _ => hcell0.grow g)) ?_
    refine sr_pure rfl (rc_call go_fold_value ev_f (args_cons (ev_t rfl) (args_nil)) rfl) (ih _ (e0 ▸ List.getElem_mem _) _ D _ (hkid0.grow g)) (fun w72 g72 => ?_)
    have g := g.trans (g72)
    replace B1 := B1.grow (g72)
    replace B2 := B2.grow (g72)
    refine sr_pu rfl (fun _ => rd_move (ev_t rfl)) ?_
    refine sr_pu rfl (fun _ => rd_extract (ev_t rfl) rfl) ?_
    refine sr_pu rfl (fun _ => rd_extract (ev_t rfl) rfl) ?_
    refine sr_alloc rfl ze_fold_constant rfl ?_
    intro b4 w4 N4
    have x4_1 := N4.ne B1
    have x4_2 := N4.ne B2
    have l4 := N4.ge g
    have g := g.trans (N4.g)
    replace B1 := B1.grow (N4.g)
    replace B2 := B2.grow (N4.g)
    have B4 := N4.blk
    refine sr_store_all rfl sz_fold_constant (ev_t rfl) (ev_t rfl) rfl rfl B4 rfl rfl ?_
    intro wS3 hgS3 hzS3
    clear B4
    intro B4
    replace B1 := B1.keep hgS3 (by intro h; injection h with h; first | exact x4_1 h.symm | exact x1_4 h | omega)
    replace B2 := B2.keep hgS3 (by intro h; injection h with h; first | exact x4_2 h.symm | exact x2_4 h | omega)
    have g := g_only g hgS3 (by intro k hk; injection hk with hk; omega)
    refine sr_pu rfl (fun _ => rd_assign (ev_t rfl)) ?_
    refine sr_sub [(1, _, _), (2, _, _), (3, _, _), (4, _, _), (5, _, _)] (sub_cons rfl (sub_cons rfl (sub_cons rfl (sub_cons rfl (sub_cons rfl (sub_nil _)))))) ?_
    refine sr_nil (hK8 _ _ ?_)
    refine sc_seq fun K9 hK9 => ?_
    refine sc_seq fun K10 hK10 => ?_
    refine sc_text [3, 3, 3, 0, 3, 3, 3, 3, 0, 3, 3] ?_
    refine sr_pu rfl (fun _ => rd_move (ev_t rfl)) ?_
    refine sr_pu rfl (fun _ => rd_move (ev_t rfl)) ?_
    refine sr_pug rfl rfl rfl (fun _ => rd_field fo_api_Node_1 (ev_t rfl)) ?_
    refine sr_rdg rfl rfl rfl (rd_load one_string (ev_u rfl id) (fun _ => B1.at_ rfl)) ?_
    refine sr_pug rfl rfl rfl (fun _ => rd_seq (ev_u rfl id) ev_c) ?_
    refine sr_pu rfl (fun _ => rd_pick_and (ev_t rfl) (ev_u rfl id)) ?_
    refine sr_pu rfl (fun _ => rd_move (ev_t rfl)) ?_
    refine sr_pug rfl rfl rfl (fun _ => rd_field fo_fold_constant_0 (ev_t rfl)) ?_
    refine sr_rdg rfl rfl rfl (rd_load one_bool (ev_u rfl id) (fun _ => B4.at_ rfl)) ?_
    refine sr_pug rfl rfl rfl (fun _ => rd_not (ev_u rfl id)) ?_
    refine sr_pu rfl (fun _ => rd_pick_and (ev_t rfl) (ev_u rfl id)) ?_
    refine sr_sub [(1, _, _), (2, _, _), (3, _, _), (4, _, _), (5, _, _), (85, _, _)] (sub_cons rfl (sub_cons rfl (sub_cons rfl (sub_cons rfl (sub_cons rfl (sub_cons rfl (sub_nil _))))))) ?_
    refine sr_nil (hK10 _ _ ?_)
    refine sc_cond (ev_t rfl) (fun h4 => ?_) (fun h4 => ?_)
    · (try simp only [bsimp] at h4)
      refine sc_seq fun K11 hK11 => ?_
      refine sc_text [3, 0, 3, 3, 2, 3] ?_
      refine sr_pu rfl (fun _ => rd_field fo_fold_constant_1 (ev_t rfl)) ?_
      refine sr_rd rfl (rd_load one_int (ev_t rfl) (fun _ => B4.at_ rfl)) ?_
      refine sr_pu rfl (fun _ => rd_negw (ev_t rfl)) ?_
      refine sr_pu rfl (fun _ => rd_build [_, _] ze_fold_constant rfl pl_fold_constant (parts_cons (ev_t rfl) (parts_nil)) rfl) ?_
      refine sr_store_all rfl sz_fold_constant (ev_t rfl) (ev_t rfl) rfl rfl B2 rfl rfl ?_
      intro wS4 hgS4 hzS4
      clear B2
      intro B2
      replace B1 := B1.keep hgS4 (by intro h; injection h with h; first | exact x2_1 h.symm | exact x1_2 h | omega)
      replace B4 := B4.keep hgS4 (by intro h; injection h with h; first | exact x2_4 h.symm | exact x4_2 h | omega)
      have g := g_only g hgS4 (by intro k hk; injection hk with hk; omega)
      refine sr_pu rfl (fun _ => rd_assign ev_c) ?_
      refine sr_sub [(1, _, _), (2, _, _), (3, _, _), (4, _, _), (5, _, _)] (sub_cons rfl (sub_cons rfl (sub_cons rfl (sub_cons rfl (sub_cons rfl (sub_nil _)))))) ?_
      refine sr_nil (hK11 _ _ ?_)
      refine sc_ret (t_retv (rs := [.cell 2 67, .tmp 3]) (vs := [_, _]) rfl rfl (evr_c rfl agg_fold_constant rfl (by first | exact B1.row | exact B2.row | exact B4.row) (evr_t rfl (evr_nil))) rfl ?_)
      refine ⟨?_, g⟩
      unfold valF; simp only [lenK, h1, h2, h3, h4, cond_true, cond_false] <;> rfl
    (try simp only [bsimp] at h4)
    refine sc_skip (hK9 _ _ ?_)
    refine sc_sub [(1, _, _), (2, _, _), (3, _, _), (4, _, _), (5, _, _)] (sub_cons rfl (sub_cons rfl (sub_cons rfl (sub_cons rfl (sub_cons rfl (sub_nil _)))))) ?_
    refine sc_seq fun K12 hK12 => ?_
    refine sc_text [3, 3, 3, 0, 3, 3, 3, 3, 0, 3] ?_
    refine sr_pu rfl (fun _ => rd_move (ev_t rfl)) ?_
    refine sr_pu rfl (fun _ => rd_move (ev_t rfl)) ?_
    refine sr_pug rfl rfl rfl (fun _ => rd_field fo_api_Node_1 (ev_t rfl)) ?_
    refine sr_rdg rfl rfl rfl (rd_load one_string (ev_u rfl id) (fun _ => B1.at_ rfl)) ?_
    refine sr_pug rfl rfl rfl (fun _ => rd_seq (ev_u rfl id) ev_c) ?_
    refine sr_pu rfl (fun _ => rd_pick_and (ev_t rfl) (ev_u rfl id)) ?_
    refine sr_pu rfl (fun _ => rd_move (ev_t rfl)) ?_
    refine sr_pug rfl rfl rfl (fun _ => rd_field fo_fold_constant_0 (ev_t rfl)) ?_
    refine sr_rdg rfl rfl rfl (rd_load one_bool (ev_u rfl id) (fun _ => B4.at_ rfl)) ?_
    refine sr_pu rfl (fun _ => rd_pick_and (ev_t rfl) (ev_u rfl id)) ?_
    refine sr_sub [(2, _, _), (3, _, _), (4, _, _), (99, _, _)] (sub_cons rfl (sub_cons rfl (sub_cons rfl (sub_cons rfl (sub_nil _))))) ?_
    refine sr_nil (hK12 _ _ ?_)
    refine sc_cond (ev_t rfl) (fun h5 => ?_) (fun h5 => ?_)
    · (try simp only [bsimp] at h5)
      refine sc_seq fun K13 hK13 => ?_
      refine sc_text [3, 0, 3, 3, 2, 3] ?_
      refine sr_pu rfl (fun _ => rd_field fo_fold_constant_1 (ev_t rfl)) ?_
      refine sr_rd rfl (rd_load one_int (ev_t rfl) (fun _ => B4.at_ rfl)) ?_
      refine sr_pu rfl (fun _ => rd_subw ev_c (ev_t rfl)) ?_
      refine sr_pu rfl (fun _ => rd_build [_, _] ze_fold_constant rfl pl_fold_constant (parts_cons ev_c (parts_cons (ev_t rfl) (parts_nil))) rfl) ?_
      refine sr_store_all rfl sz_fold_constant (ev_t rfl) (ev_t rfl) rfl rfl B2 rfl rfl ?_
      intro wS5 hgS5 hzS5
      clear B2
      intro B2
      replace B1 := B1.keep hgS5 (by intro h; injection h with h; first | exact x2_1 h.symm | exact x1_2 h | omega)
      replace B4 := B4.keep hgS5 (by intro h; injection h with h; first | exact x2_4 h.symm | exact x4_2 h | omega)
      have g := g_only g hgS5 (by intro k hk; injection hk with hk; omega)
      refine sr_pu rfl (fun _ => rd_assign ev_c) ?_
      refine sr_sub [(2, _, _), (3, _, _)] (sub_cons rfl (sub_cons rfl (sub_nil _))) ?_
      refine sr_nil (hK13 _ _ ?_)
      refine sc_ret (t_retv (rs := [.cell 2 67, .tmp 3]) (vs := [_, _]) rfl rfl (evr_c rfl agg_fold_constant rfl (by first | exact B1.row | exact B2.row | exact B4.row) (evr_t rfl (evr_nil))) rfl ?_)
      refine ⟨?_, g⟩
      unfold valF; simp only [lenK, h1, h2, h3, h4, h5, cond_true, cond_false] <;> rfl
    (try simp only [bsimp] at h5)
    refine sc_skip (hK2 _ _ ?_)
    refine sc_sub [(2, _, _), (3, _, _)] (sub_cons rfl (sub_cons rfl (sub_nil _))) ?_
    refine sc_seq fun K14 hK14 => ?_
    refine sc_text [3, 2, 3] ?_
    refine sr_pu rfl (fun _ => rd_build [_, _] ze_fold_constant rfl pl_fold_constant (parts_nil) rfl) ?_
    refine sr_store_all rfl sz_fold_constant (ev_t rfl) (ev_t rfl) rfl rfl B2 rfl rfl ?_
    intro wS6 hgS6 hzS6
    clear B2
    intro B2
    replace B1 := B1.keep hgS6 (by intro h; injection h with h; first | exact x2_1 h.symm | exact x1_2 h | omega)
    replace B4 := B4.keep hgS6 (by intro h; injection h with h; first | exact x2_4 h.symm | exact x4_2 h | omega)
    have g := g_only g hgS6 (by intro k hk; injection hk with hk; omega)
    refine sr_pu rfl (fun _ => rd_assign ev_c) ?_
    refine sr_nil (hK14 _ _ ?_)
    refine sc_ret (t_retv (rs := [.cell 2 67, .tmp 3]) (vs := [_, _]) rfl rfl (evr_c rfl agg_fold_constant rfl (by first | exact B1.row | exact B2.row | exact B4.row) (evr_t rfl (evr_nil))) rfl ?_)
    refine ⟨?_, g⟩
    unfold valF; simp only [lenK, h1, h2, h3, h4, h5, cond_true, cond_false] <;> rfl
  (try simp only [bsimp] at h3)
  refine sc_seq fun K15 hK15 => ?_
  refine sc_text [3, 0, 3, 3, 3, 0, 3, 3, 3, 3] ?_
  refine sr_pu rfl (fun _ => rd_field fo_api_Node_0 (ev_t rfl)) ?_
  refine sr_rd rfl (rd_load one_int (ev_t rfl) (fun _ => B1.at_ rfl)) ?_
  refine sr_pu rfl (fun _ => rd_eq (ev_t rfl) ev_c) ?_
  refine sr_pu rfl (fun _ => rd_move (ev_t rfl)) ?_
  refine sr_pug rfl rfl rfl (fun _ => rd_field fo_api_Node_4 (ev_t rfl)) ?_
  refine sr_rdg rfl rfl rfl (rd_load one_sl_api_Node (ev_u rfl id) (fun _ => B1.at_ rfl)) ?_
  refine sr_pug rfl rfl rfl (fun _ => rd_len el_sl_api_Node (ev_u rfl id)) ?_
  refine sr_pug rfl rfl rfl (fun _ => rd_eq (ev_u rfl id) ev_c) ?_
  refine sr_pu rfl (fun _ => rd_pick_and (ev_t rfl) (ev_u rfl id)) ?_
  refine sr_pu rfl (fun _ => rd_assign (ev_t rfl)) ?_
  refine sr_sub [(1, _, _), (2, _, _), (3, _, _), (104, _, _)] (sub_cons rfl (sub_cons rfl (sub_cons rfl (sub_cons rfl (sub_nil _))))) ?_
  refine sr_nil (hK15 _ _ ?_)
  refine sc_cond (ev_t rfl) (fun h6 => ?_) (fun h6 => ?_)
  · have hl : t.kids.length = 2 := by (have hz := h6; first | (unfold lenK at hz; simp at hz; omega) | (simp at hz; omega))
    obtain ⟨hpe, p0, c0, hcell0, hkid0⟩ := kd_opt hk0 (i := 0) (by omega)
    obtain ⟨_, p1, c1, hcell1, hkid1⟩ := kd_opt hk0 (i := 1) (by omega)
    have e0 := kidAt_eq (show 0 < t.kids.length by omega)
    have e1 := kidAt_eq (show 1 < t.kids.length by omega)
    refine sc_seq fun K16 hK16 => ?_
    refine sc_text [3, 0, 3, 0, 1, 3, 3, 3, 1, 2, 3] ?_
    refine sr_pu rfl (fun _ => rd_field fo_api_Node_4 (ev_t rfl)) ?_
    refine sr_rd rfl (rd_load one_sl_api_Node (ev_t rfl) (fun _ => B1.at_ rfl)) ?_
    refine sr_pu rfl (fun _ => rd_idxq el_sl_api_Node (ev_t rfl) ev_c (fun _ => by omega) (fun _ => hpe)) ?_
    refine sr_rd rfl (rd_loads agg_api_Node (ev_t rfl) rfl (fun _ => hcell0.grow g)) ?_
    refine sr_pure rfl (rc_call go_fold_value ev_f (args_cons (ev_t rfl) (args_nil)) rfl) (ih _ (e0 ▸ List.getElem_mem _) _ D _ (hkid0.grow g)) (fun w119 g119 => ?_)
    have g := g.trans (g119)
    replace B1 := B1.grow (g119)
    replace B2 := B2.grow (g119)
    refine sr_pu rfl (fun _ => rd_move (ev_t rfl)) ?_
    refine sr_pu rfl (fun _ => rd_extract (ev_t rfl) rfl) ?_
    refine sr_pu rfl (fun _ => rd_extract (ev_t rfl) rfl) ?_
    refine sr_alloc rfl ze_fold_constant rfl ?_
    intro b6 w6 N6
    have x6_1 := N6.ne B1
    have x6_2 := N6.ne B2
    have l6 := N6.ge g
    have g := g.trans (N6.g)
    replace B1 := B1.grow (N6.g)
    replace B2 := B2.grow (N6.g)
    have B6 := N6.blk
    refine sr_store_all rfl sz_fold_constant (ev_t rfl) (ev_t rfl) rfl rfl B6 rfl rfl ?_
    intro wS7 hgS7 hzS7
    clear B6
    intro B6
    replace B1 := B1.keep hgS7 (by intro h; injection h with h; first | exact x6_1 h.symm | exact x1_6 h | omega)
    replace B2 := B2.keep hgS7 (by intro h; injection h with h; first | exact x6_2 h.symm | exact x2_6 h | omega)
    have g := g_only g hgS7 (by intro k hk; injection hk with hk; omega)
    refine sr_pu rfl (fun _ => rd_assign (ev_t rfl)) ?_
    refine sr_sub [(1, _, _), (2, _, _), (3, _, _), (6, _, _), (7, _, _)] (sub_cons rfl (sub_cons rfl (sub_cons rfl (sub_cons rfl (sub_cons rfl (sub_nil _)))))) ?_
    refine sr_nil (hK16 _ _ ?_)
    refine sc_seq fun K17 hK17 => ?_
    refine sc_text [3, 0, 3, 0, 1, 3, 3, 3, 1, 2, 3] ?_
    refine sr_pu rfl (fun _ => rd_field fo_api_Node_4 (ev_t rfl)) ?_
    refine sr_rd rfl (rd_load one_sl_api_Node (ev_t rfl) (fun _ => B1.at_ rfl)) ?_
    refine sr_pu rfl (fun _ => rd_idxq el_sl_api_Node (ev_t rfl) ev_c (fun _ => by omega) (fun _ => hpe)) ?_
    refine sr_rd rfl (rd_loads agg_api_Node (ev_t rfl) rfl (fun _ => hcell1.grow g)) ?_
    refine sr_pure rfl (rc_call go_fold_value ev_f (args_cons (ev_t rfl) (args_nil)) rfl) (ih _ (e1 ▸ List.getElem_mem _) _ D _ (hkid1.grow g)) (fun w127 g127 => ?_)
    have g := g.trans (g127)
    replace B1 := B1.grow (g127)
    replace B2 := B2.grow (g127)
    replace B6 := B6.grow (g127)
    refine sr_pu rfl (fun _ => rd_move (ev_t rfl)) ?_
    refine sr_pu rfl (fun _ => rd_extract (ev_t rfl) rfl) ?_
    refine sr_pu rfl (fun _ => rd_extract (ev_t rfl) rfl) ?_
    refine sr_alloc rfl ze_fold_constant rfl ?_
    intro b8 w8 N8
    have x8_1 := N8.ne B1
    have x8_2 := N8.ne B2
    have x8_6 := N8.ne B6
    have l8 := N8.ge g
    have g := g.trans (N8.g)
    replace B1 := B1.grow (N8.g)
    replace B2 := B2.grow (N8.g)
    replace B6 := B6.grow (N8.g)
    have B8 := N8.blk
    refine sr_store_all rfl sz_fold_constant (ev_t rfl) (ev_t rfl) rfl rfl B8 rfl rfl ?_
    intro wS8 hgS8 hzS8
    clear B8
    intro B8
    replace B1 := B1.keep hgS8 (by intro h; injection h with h; first | exact x8_1 h.symm | exact x1_8 h | omega)
    replace B2 := B2.keep hgS8 (by intro h; injection h with h; first | exact x8_2 h.symm | exact x2_8 h | omega)
    replace B6 := B6.keep hgS8 (by intro h; injection h with h; first | exact x8_6 h.symm | exact x6_8 h | omega)
    have g := g_only g hgS8 (by intro k hk; injection hk with hk; omega)
    refine sr_pu rfl (fun _ => rd_assign (ev_t rfl)) ?_
    refine sr_sub [(1, _, _), (2, _, _), (3, _, _), (6, _, _), (7, _, _), (8, _, _), (9, _, _)] (sub_cons rfl (sub_cons rfl (sub_cons rfl (sub_cons rfl (sub_cons rfl (sub_cons rfl (sub_cons rfl (sub_nil _)))))))) ?_
    refine sr_nil (hK17 _ _ ?_)
    refine sc_seq fun K18 hK18 => ?_
    refine sc_text [3, 3, 3, 3, 3, 3, 0, 3, 0, 3, 3] ?_
    refine sr_pu rfl (fun _ => rd_move (ev_t rfl)) ?_
    refine sr_pu rfl (fun _ => rd_move (ev_t rfl)) ?_
    refine sr_pug rfl rfl rfl (fun _ => rd_move (ev_t rfl)) ?_
    refine sr_pu rfl (fun _ => rd_pick_and (ev_t rfl) (ev_u rfl id)) ?_
    refine sr_pu rfl (fun _ => rd_move (ev_t rfl)) ?_
    refine sr_pug rfl rfl rfl (fun _ => rd_field fo_fold_constant_0 (ev_t rfl)) ?_
    refine sr_rdg rfl rfl rfl (rd_load one_bool (ev_u rfl id) (fun _ => B6.at_ rfl)) ?_
    refine sr_pug rfl rfl rfl (fun _ => rd_field fo_fold_constant_0 (ev_t rfl)) ?_
    refine sr_rdg rfl rfl rfl (rd_load one_bool (ev_u rfl id) (fun _ => B8.at_ rfl)) ?_
    refine sr_pug rfl rfl rfl (fun _ => rd_beq und_bool (ev_u rfl id) (ev_u rfl id)) ?_
    refine sr_pu rfl (fun _ => rd_pick_and (ev_t rfl) (ev_u rfl id)) ?_
    refine sr_sub [(1, _, _), (2, _, _), (3, _, _), (6, _, _), (8, _, _), (140, _, _)] (sub_cons rfl (sub_cons rfl (sub_cons rfl (sub_cons rfl (sub_cons rfl (sub_cons rfl (sub_nil _))))))) ?_
    refine sr_nil (hK18 _ _ ?_)
    refine sc_cond (ev_t rfl) (fun h7 => ?_) (fun h7 => ?_)
    · (try simp only [bsimp] at h7)
      refine sc_seq fun K19 hK19 => ?_
      refine sc_text [3, 0, 0, 0, 1, 3, 3, 2, 3] ?_
      refine sr_pu rfl (fun _ => rd_field fo_api_Node_1 (ev_t rfl)) ?_
      refine sr_rd rfl (rd_load one_string (ev_t rfl) (fun _ => B1.at_ rfl)) ?_
      refine sr_rd rfl (rd_loads agg_fold_constant (ev_t rfl) rfl (fun _ => B6.row)) ?_
      refine sr_rd rfl (rd_loads agg_fold_constant (ev_t rfl) rfl (fun _ => B8.row)) ?_
      refine sr_pure rfl (rc_call go_fold_binary ev_f (args_cons (ev_t rfl) (args_cons (ev_t rfl) (args_cons (ev_t rfl) (args_nil)))) rfl) (fbin_ok _ _ _ _) (fun w145 g145 => ?_)
      have g := g.trans (g145)
      replace B1 := B1.grow (g145)
      replace B2 := B2.grow (g145)
      replace B6 := B6.grow (g145)
      replace B8 := B8.grow (g145)
      refine sr_pu rfl (fun _ => rd_extract (ev_t rfl) rfl) ?_
      refine sr_pu rfl (fun _ => rd_extract (ev_t rfl) rfl) ?_
      refine sr_store_all rfl sz_fold_constant (ev_t rfl) (ev_t rfl) rfl rfl B2 rfl rfl ?_
      intro wS9 hgS9 hzS9
      clear B2
      intro B2
      replace B1 := B1.keep hgS9 (by intro h; injection h with h; first | exact x2_1 h.symm | exact x1_2 h | omega)
      replace B6 := B6.keep hgS9 (by intro h; injection h with h; first | exact x2_6 h.symm | exact x6_2 h | omega)
      replace B8 := B8.keep hgS9 (by intro h; injection h with h; first | exact x2_8 h.symm | exact x8_2 h | omega)
      have g := g_only g hgS9 (by intro k hk; injection hk with hk; omega)
      refine sr_pu rfl (fun _ => rd_assign (ev_t rfl)) ?_
      refine sr_sub [(2, _, _), (3, _, _)] (sub_cons rfl (sub_cons rfl (sub_nil _))) ?_
      refine sr_nil (hK19 _ _ ?_)
      refine sc_ret (t_retv (rs := [.cell 2 67, .tmp 3]) (vs := [_, _]) rfl rfl (evr_c rfl agg_fold_constant rfl (by first | exact B1.row | exact B2.row | exact B6.row | exact B8.row) (evr_t rfl (evr_nil))) rfl ?_)
      refine ⟨?_, g⟩
      unfold valF; simp only [lenK, h1, h2, h3, h6, h7, cond_true, cond_false] <;> rfl
    (try simp only [bsimp] at h7)
    refine sc_skip (hK2 _ _ ?_)
    refine sc_sub [(2, _, _), (3, _, _)] (sub_cons rfl (sub_cons rfl (sub_nil _))) ?_
    refine sc_seq fun K20 hK20 => ?_
    refine sc_text [3, 2, 3] ?_
    refine sr_pu rfl (fun _ => rd_build [_, _] ze_fold_constant rfl pl_fold_constant (parts_nil) rfl) ?_
    refine sr_store_all rfl sz_fold_constant (ev_t rfl) (ev_t rfl) rfl rfl B2 rfl rfl ?_
    intro wS10 hgS10 hzS10
    clear B2
    intro B2
    replace B1 := B1.keep hgS10 (by intro h; injection h with h; first | exact x2_1 h.symm | exact x1_2 h | omega)
    replace B6 := B6.keep hgS10 (by intro h; injection h with h; first | exact x2_6 h.symm | exact x6_2 h | omega)
    replace B8 := B8.keep hgS10 (by intro h; injection h with h; first | exact x2_8 h.symm | exact x8_2 h | omega)
    have g := g_only g hgS10 (by intro k hk; injection hk with hk; omega)
    refine sr_pu rfl (fun _ => rd_assign ev_c) ?_
    refine sr_nil (hK20 _ _ ?_)
    refine sc_ret (t_retv (rs := [.cell 2 67, .tmp 3]) (vs := [_, _]) rfl rfl (evr_c rfl agg_fold_constant rfl (by first | exact B1.row | exact B2.row | exact B6.row | exact B8.row) (evr_t rfl (evr_nil))) rfl ?_)
    refine ⟨?_, g⟩
    unfold valF; simp only [lenK, h1, h2, h3, h6, h7, cond_true, cond_false] <;> rfl
  (try simp only [bsimp] at h6)
  refine sc_skip (hK2 _ _ ?_)
  refine sc_sub [(2, _, _), (3, _, _)] (sub_cons rfl (sub_cons rfl (sub_nil _))) ?_
  refine sc_seq fun K21 hK21 => ?_
  refine sc_text [3, 2, 3] ?_
  refine sr_pu rfl (fun _ => rd_build [_, _] ze_fold_constant rfl pl_fold_constant (parts_nil) rfl) ?_
  refine sr_store_all rfl sz_fold_constant (ev_t rfl) (ev_t rfl) rfl rfl B2 rfl rfl ?_
  intro wS11 hgS11 hzS11
  clear B2
  intro B2
  replace B1 := B1.keep hgS11 (by intro h; injection h with h; first | exact x2_1 h.symm | exact x1_2 h | omega)
  have g := g_only g hgS11 (by intro k hk; injection hk with hk; omega)
  refine sr_pu rfl (fun _ => rd_assign ev_c) ?_
  refine sr_nil (hK21 _ _ ?_)
  refine sc_ret (t_retv (rs := [.cell 2 67, .tmp 3]) (vs := [_, _]) rfl rfl (evr_c rfl agg_fold_constant rfl (by first | exact B1.row | exact B2.row) (evr_t rfl (evr_nil))) rfl ?_)
  refine ⟨?_, g⟩
  unfold valF; simp only [lenK, h1, h2, h3, h6, cond_true, cond_false] <;> rfl
theorem fValue_ok (t : Nd) (v : Value) (D : Nat → Prop) (w : World) (hk : Kd w D t.kids v) : Ret PP fn_fold_Value #[ndV t v] w fun r w' => r = .tuple #[.int .i64 (bif (valC t).2 then (valC t).1.2 else 0), .bool (valC t).2] ∧ G w w' := by
  obtain ⟨p, c, rfl, hcap, hks⟩ := hk
  have hk0 : Kd w D t.kids (.slice p t.kids.length c) := ⟨p, c, rfl, hcap, hks⟩
  have g := G.refl w
  refine ret_of_sc (m := 15) func_fold_Value rfl rfl [(0, True, _)] (sub_cons rfl (sub_nil _)) ?_
  refine sc_seq fun K1 hK1 => ?_
  refine sc_text [1, 3, 3] ?_
  refine sr_box rfl (ev_t rfl) rfl ?_
  intro b1 w1 N1
  have l1 := N1.ge g
  have g := g.trans (N1.g)
  have B1 := N1.blk
  refine sr_pu rfl (fun _ => rd_assign ev_c) ?_
  refine sr_pu rfl (fun _ => rd_assign ev_c) ?_
  refine sr_sub [(1, _, _), (2, _, _), (3, _, _)] (sub_cons rfl (sub_cons rfl (sub_cons rfl (sub_nil _)))) ?_
  refine sr_nil (hK1 _ _ ?_)
  refine sc_seq fun K2 hK2 => ?_
  refine sc_text [0, 1, 3, 3, 3, 1, 2, 3] ?_
  refine sr_rd rfl (rd_loads agg_api_Node (ev_t rfl) rfl (fun _ => B1.row)) ?_
  refine sr_pure rfl (rc_call go_fold_value ev_f (args_cons (ev_t rfl) (args_nil)) rfl) (fvalue_ok t _ D _ (hk0.grow g)) (fun w8 g8 => ?_)
  have g := g.trans (g8)
  replace B1 := B1.grow (g8)
  refine sr_pu rfl (fun _ => rd_move (ev_t rfl)) ?_
  refine sr_pu rfl (fun _ => rd_extract (ev_t rfl) rfl) ?_
  refine sr_pu rfl (fun _ => rd_extract (ev_t rfl) rfl) ?_
  refine sr_alloc rfl ze_fold_constant rfl ?_
  intro b4 w4 N4
  have x4_1 := N4.ne B1
  have l4 := N4.ge g
  have g := g.trans (N4.g)
  replace B1 := B1.grow (N4.g)
  have B4 := N4.blk
  refine sr_store_all rfl sz_fold_constant (ev_t rfl) (ev_t rfl) rfl rfl B4 rfl rfl ?_
  intro wS1 hgS1 hzS1
  clear B4
  intro B4
  replace B1 := B1.keep hgS1 (by intro h; injection h with h; first | exact x4_1 h.symm | exact x1_4 h | omega)
  have g := g_only g hgS1 (by intro k hk; injection hk with hk; omega)
  refine sr_pu rfl (fun _ => rd_assign (ev_t rfl)) ?_
  refine sr_sub [(2, _, _), (3, _, _), (4, _, _), (5, _, _)] (sub_cons rfl (sub_cons rfl (sub_cons rfl (sub_cons rfl (sub_nil _))))) ?_
  refine sr_nil (hK2 _ _ ?_)
  refine sc_seq fun K3 hK3 => ?_
  refine sc_seq fun K4 hK4 => ?_
  refine sc_text [3, 3] ?_
  refine sr_pu rfl (fun _ => rd_move (ev_t rfl)) ?_
  refine sr_pu rfl (fun _ => rd_not (ev_t rfl)) ?_
  refine sr_sub [(2, _, _), (3, _, _), (4, _, _), (12, _, _)] (sub_cons rfl (sub_cons rfl (sub_cons rfl (sub_cons rfl (sub_nil _))))) ?_
  refine sr_nil (hK4 _ _ ?_)
  refine sc_cond (ev_t rfl) (fun h1 => ?_) (fun h1 => ?_)
  · have hv : (valC t).2 = false := by simpa using h1
    refine sc_seq fun K5 hK5 => ?_
    refine sc_text [3, 3] ?_
    refine sr_pu rfl (fun _ => rd_assign ev_c) ?_
    refine sr_pu rfl (fun _ => rd_assign ev_c) ?_
    refine sr_sub [(2, _, _), (3, _, _), (4, _, _)] (sub_cons rfl (sub_cons rfl (sub_cons rfl (sub_nil _)))) ?_
    refine sr_nil (hK5 _ _ ?_)
    refine sc_ret (t_rets (ts := [2, 3]) (vs := [_, _]) rfl rfl rfl ?_)
    refine ⟨?_, g⟩
    rw [hv]; rfl
  have hv : (valC t).2 = true := by simpa using h1
  refine sc_skip (hK3 _ _ ?_)
  refine sc_sub [(2, _, _), (3, _, _), (4, _, _)] (sub_cons rfl (sub_cons rfl (sub_cons rfl (sub_nil _)))) ?_
  refine sc_seq fun K6 hK6 => ?_
  refine sc_text [3, 0, 3, 3] ?_
  refine sr_pu rfl (fun _ => rd_field fo_fold_constant_1 (ev_t rfl)) ?_
  refine sr_rd rfl (rd_load one_int (ev_t rfl) (fun _ => B4.at_ rfl)) ?_
  refine sr_pu rfl (fun _ => rd_assign (ev_t rfl)) ?_
  refine sr_pu rfl (fun _ => rd_assign ev_c) ?_
  refine sr_sub [(2, _, _), (3, _, _)] (sub_cons rfl (sub_cons rfl (sub_nil _))) ?_
  refine sr_nil (hK6 _ _ ?_)
  refine sc_ret (t_rets (ts := [2, 3]) (vs := [_, _]) rfl rfl rfl ?_)
  refine ⟨?_, g⟩
  rw [hv]; rfl
end Go.Rk
