/- The types: operators and methods. Conditions: what start-up laid. -/
import Derived.Test.YtbefeanapficgaaDoorTypC
namespace Go.Rk
open Go Go.RowKit
def opAr : List (List UInt8) := [[43], [45], [42], [47], [37]]
def opLt : List (List UInt8) := [[60], [60, 61], [62], [62, 61]]
def opEq : List (List UInt8) := [[61, 61], [33, 61]]
def opLo : List (List UInt8) := [[38, 38], [124, 124]]
def binT (op : List UInt8) (a b : Ty) : Ty × Bool :=
  bif anyS opAr op then bif tyEqB a tInt && tyEqB b tInt then (tInt, true) else (ty0, false)
  else bif anyS opLt op then bif tyEqB a tInt && tyEqB b tInt then (tBool, true) else (ty0, false)
  else bif anyS opEq op then bif compB a b then (tBool, true) else (ty0, false)
  else bif anyS opLo op then bif tyEqB a tBool && tyEqB b tBool then (tBool, true) else (ty0, false)
  else (ty0, false)
theorem tboth_ok (a b y : Ty) (p q : Nat) (w : World) (hp : Blk w p ty_api_Type (tyCells a)) (hq : Blk w q ty_api_Type (tyCells b)) : Ret PP fn_types_Binary_1 #[tyV y, .pointer (some ⟨p, 0, none⟩), .pointer (some ⟨q, 0, none⟩)] w fun v w' => v = .bool (tyEqB a y && tyEqB b y) ∧ G w w' := by
  have g := G.refl w
  refine ret_of_sc (m := 13) func_types_Binary_1 rfl rfl [(0, True, _), (1, True, _), (2, True, _)] (sub_cons rfl (sub_cons rfl (sub_cons rfl (sub_nil _)))) ?_
  refine sc_seq fun K1 hK1 => ?_
  refine sc_text [1, 3] ?_
  refine sr_box rfl (ev_t rfl) rfl ?_
  intro b3 w3 N3
  have l3 := N3.ge g
  have g := g.trans (N3.g)
  have B3 := N3.blk
  refine sr_pu rfl (fun _ => rd_assign ev_c) ?_
  refine sr_sub [(1, _, _), (2, _, _), (3, _, _), (4, _, _)] (sub_cons rfl (sub_cons rfl (sub_cons rfl (sub_cons rfl (sub_nil _))))) ?_
  refine sr_nil (hK1 _ _ ?_)
  refine sc_seq fun K2 hK2 => ?_
  refine sc_text [0, 0, 3, 3, 0, 0, 3, 3, 3] ?_
  refine sr_rd rfl (rd_loads agg_api_Type (ev_t rfl) rfl (fun _ => by first | exact (hp.grow g).row | exact (hq.grow g).row | exact B3.at_ rfl | exact B3.row)) ?_
  refine sr_rd rfl (rd_loads agg_api_Type (ev_t rfl) rfl (fun _ => B3.row)) ?_
  refine sr_pu rfl (fun _ => rd_steq fl_api_Type (ev_t rfl) (ev_t rfl) rfl) ?_
  refine sr_pu rfl (fun _ => rd_move (ev_t rfl)) ?_
  refine sr_rdg rfl rfl rfl (rd_loads agg_api_Type (ev_t rfl) rfl (fun _ => by first | exact (hp.grow g).row | exact (hq.grow g).row | exact B3.at_ rfl | exact B3.row)) ?_
  refine sr_rdg rfl rfl rfl (rd_loads agg_api_Type (ev_t rfl) rfl (fun _ => B3.row)) ?_
  refine sr_pug rfl rfl rfl (fun _ => rd_steq fl_api_Type (ev_u rfl id) (ev_u rfl id) rfl) ?_
  refine sr_pu rfl (fun _ => rd_pick_and (ev_t rfl) (ev_u rfl id)) ?_
  refine sr_pu rfl (fun _ => rd_assign (ev_t rfl)) ?_
  refine sr_sub [(4, _, _)] (sub_cons rfl (sub_nil _)) ?_
  refine sr_nil (hK2 _ _ ?_)
  refine sc_ret (t_ret1 rfl rfl ?_)
  exact ⟨rfl, g⟩
theorem tbin_ok (op : List UInt8) (a b : Ty) (w : World) (hL : Laid w) (hb3 : 4 ≤ w.heap.size) : Ret PP fn_types_Binary #[Str op, tyV a, tyV b] w fun v w' => v = .tuple #[tyV (binT op a b).1, .bool (binT op a b).2] ∧ G w w' := by
  have g := G.refl w
  refine ret_of_sc (m := 49) func_types_Binary rfl rfl [(0, True, _), (1, True, _), (2, True, _)] (sub_cons rfl (sub_cons rfl (sub_cons rfl (sub_nil _)))) ?_
  refine sc_seq fun K1 hK1 => ?_
  refine sc_text [1, 1, 1, 3] ?_
  refine sr_box rfl (ev_t rfl) rfl ?_
  intro b4 w4 N4
  have l4 := N4.ge g
  have g := g.trans (N4.g)
  have B4 := N4.blk
  refine sr_box rfl (ev_t rfl) rfl ?_
  intro b5 w5 N5
  have x5_4 := N5.ne B4
  have l5 := N5.ge g
  have g := g.trans (N5.g)
  replace B4 := B4.grow (N5.g)
  have B5 := N5.blk
  refine sr_alloc rfl ze_api_Type rfl ?_
  intro b6 w6 N6
  have x6_4 := N6.ne B4
  have x6_5 := N6.ne B5
  have l6 := N6.ge g
  have g := g.trans (N6.g)
  replace B4 := B4.grow (N6.g)
  replace B5 := B5.grow (N6.g)
  have B6 := N6.blk
  refine sr_pu rfl (fun _ => rd_assign ev_c) ?_
  refine sr_sub [(0, _, _), (4, _, _), (5, _, _), (6, _, _), (7, _, _)] (sub_cons rfl (sub_cons rfl (sub_cons rfl (sub_cons rfl (sub_cons rfl (sub_nil _)))))) ?_
  refine sr_nil (hK1 _ _ ?_)
  refine sc_seq fun K2 hK2 => ?_
  refine sc_text [3, 3, 1, 1, 2, 2] ?_
  refine sr_pu rfl (fun _ => rd_build [_, _] ze_api_Type rfl pl_api_Type (parts_cons ev_c (parts_nil)) rfl) ?_
  refine sr_pu rfl (fun _ => rd_build [_, _] ze_api_Type rfl pl_api_Type (parts_cons ev_c (parts_nil)) rfl) ?_
  refine sr_alloc rfl ze_api_Type rfl ?_
  intro b8 w8 N8
  have x8_4 := N8.ne B4
  have x8_5 := N8.ne B5
  have x8_6 := N8.ne B6
  have l8 := N8.ge g
  have g := g.trans (N8.g)
  replace B4 := B4.grow (N8.g)
  replace B5 := B5.grow (N8.g)
  replace B6 := B6.grow (N8.g)
  have B8 := N8.blk
  refine sr_alloc rfl ze_api_Type rfl ?_
  intro b9 w9 N9
  have x9_4 := N9.ne B4
  have x9_5 := N9.ne B5
  have x9_6 := N9.ne B6
  have x9_8 := N9.ne B8
  have l9 := N9.ge g
  have g := g.trans (N9.g)
  replace B4 := B4.grow (N9.g)
  replace B5 := B5.grow (N9.g)
  replace B6 := B6.grow (N9.g)
  replace B8 := B8.grow (N9.g)
  have B9 := N9.blk
  refine sr_store_all rfl sz_api_Type (ev_t rfl) (ev_t rfl) rfl rfl B8 rfl rfl ?_
  intro wS1 hgS1 hzS1
  clear B8
  intro B8
  replace B4 := B4.keep hgS1 (by intro h; injection h with h; omega)
  replace B5 := B5.keep hgS1 (by intro h; injection h with h; omega)
  replace B6 := B6.keep hgS1 (by intro h; injection h with h; omega)
  replace B9 := B9.keep hgS1 (by intro h; injection h with h; omega)
  have g := g_only g hgS1 (by intro k hk; injection hk with hk; omega)
  refine sr_store_all rfl sz_api_Type (ev_t rfl) (ev_t rfl) rfl rfl B9 rfl rfl ?_
  intro wS2 hgS2 hzS2
  clear B9
  intro B9
  replace B4 := B4.keep hgS2 (by intro h; injection h with h; omega)
  replace B5 := B5.keep hgS2 (by intro h; injection h with h; omega)
  replace B6 := B6.keep hgS2 (by intro h; injection h with h; omega)
  replace B8 := B8.keep hgS2 (by intro h; injection h with h; omega)
  have g := g_only g hgS2 (by intro k hk; injection hk with hk; omega)
  refine sr_sub [(0, _, _), (4, _, _), (5, _, _), (6, _, _), (7, _, _), (8, _, _), (9, _, _)] (sub_cons rfl (sub_cons rfl (sub_cons rfl (sub_cons rfl (sub_cons rfl (sub_cons rfl (sub_cons rfl (sub_nil _)))))))) ?_
  refine sr_nil (hK2 _ _ ?_)
  refine sc_seq fun K3 hK3 => ?_
  refine sc_text [3, 3] ?_
  refine sr_pu rfl (fun _ => rd_func (args_nil) (args_cons (ev_t rfl) (args_cons (ev_t rfl) (args_nil)))) ?_
  refine sr_pu rfl (fun _ => rd_assign (ev_t rfl)) ?_
  refine sr_sub [(0, _, _), (4, _, _), (5, _, _), (6, _, _), (7, _, _), (8, _, _), (9, _, _), (10, _, _)] (sub_cons rfl (sub_cons rfl (sub_cons rfl (sub_cons rfl (sub_cons rfl (sub_cons rfl (sub_cons rfl (sub_cons rfl (sub_nil _))))))))) ?_
  refine sr_nil (hK3 _ _ ?_)
  refine sc_seq fun K4 hK4 => ?_
  refine sc_seq fun K5 hK5 => ?_
  refine sc_text [3] ?_
  refine sr_pu rfl (fun _ => rd_move (ev_t rfl)) ?_
  refine sr_sub [(4, _, _), (5, _, _), (6, _, _), (7, _, _), (8, _, _), (9, _, _), (10, _, _), (14, _, _)] (sub_cons rfl (sub_cons rfl (sub_cons rfl (sub_cons rfl (sub_cons rfl (sub_cons rfl (sub_cons rfl (sub_cons rfl (sub_nil _))))))))) ?_
  refine sr_nil (hK5 _ _ ?_)
  refine sc_block ?_
  refine sc_seq fun K6 hK6 => ?_
  refine sc_seq fun K7 hK7 => ?_
  refine sc_text [3, 3] ?_
  refine sr_pu rfl (fun _ => rd_seq (ev_t rfl) ev_c) ?_
  refine sr_pu rfl (fun _ => rd_assign (ev_t rfl)) ?_
  refine sr_sub [(4, _, _), (5, _, _), (6, _, _), (7, _, _), (8, _, _), (9, _, _), (10, _, _), (14, _, _), (15, _, _)] (sub_cons rfl (sub_cons rfl (sub_cons rfl (sub_cons rfl (sub_cons rfl (sub_cons rfl (sub_cons rfl (sub_cons rfl (sub_cons rfl (sub_nil _)))))))))) ?_
  refine sr_nil (hK7 _ _ ?_)
  refine' sc_or [(4, _, _), (5, _, _), (6, _, _), (7, _, _), (8, _, _), (9, _, _), (10, _, _), (14, _, _)] (sub_cons rfl (sub_cons rfl (sub_cons rfl (sub_cons rfl (sub_cons rfl (sub_cons rfl (sub_cons rfl (sub_cons rfl (sub_cons rfl (sub_nil _)))))))))) rfl (fun hb1 => ?y1) (hK6 _ _ ?n1)
  case y1 =>
   refine sc_seq fun K8 hK8 => ?_
   refine sc_text [3, 3] ?_
   refine sr_pu rfl (fun _ => rd_seq (ev_t rfl) ev_c) ?_
   refine sr_pu rfl (fun _ => rd_assign (ev_t rfl)) ?_
   refine sr_sub [(4, _, _), (5, _, _), (6, _, _), (7, _, _), (8, _, _), (9, _, _), (10, _, _), (14, _, _), (15, _, _)] (sub_cons rfl (sub_cons rfl (sub_cons rfl (sub_cons rfl (sub_cons rfl (sub_cons rfl (sub_cons rfl (sub_cons rfl (sub_cons rfl (sub_nil _)))))))))) ?_
   refine sr_nil (hK8 _ _ ?_)
   refine' sc_or [(4, _, _), (5, _, _), (6, _, _), (7, _, _), (8, _, _), (9, _, _), (10, _, _), (14, _, _)] (sub_cons rfl (sub_cons rfl (sub_cons rfl (sub_cons rfl (sub_cons rfl (sub_cons rfl (sub_cons rfl (sub_cons rfl (sub_cons rfl (sub_nil _)))))))))) rfl (fun hb2 => ?y2) (fun a ha => ⟨ha, rfl⟩)
   case y2 =>
    refine sc_seq fun K9 hK9 => ?_
    refine sc_text [3, 3] ?_
    refine sr_pu rfl (fun _ => rd_seq (ev_t rfl) ev_c) ?_
    refine sr_pu rfl (fun _ => rd_assign (ev_t rfl)) ?_
    refine sr_sub [(4, _, _), (5, _, _), (6, _, _), (7, _, _), (8, _, _), (9, _, _), (10, _, _), (14, _, _), (15, _, _)] (sub_cons rfl (sub_cons rfl (sub_cons rfl (sub_cons rfl (sub_cons rfl (sub_cons rfl (sub_cons rfl (sub_cons rfl (sub_cons rfl (sub_nil _)))))))))) ?_
    refine sr_nil (hK9 _ _ ?_)
    refine' sc_or [(4, _, _), (5, _, _), (6, _, _), (7, _, _), (8, _, _), (9, _, _), (10, _, _), (14, _, _)] (sub_cons rfl (sub_cons rfl (sub_cons rfl (sub_cons rfl (sub_cons rfl (sub_cons rfl (sub_cons rfl (sub_cons rfl (sub_cons rfl (sub_nil _)))))))))) rfl (fun hb3 => ?y3) (fun a ha => ⟨ha, rfl⟩)
    case y3 =>
     refine sc_seq fun K10 hK10 => ?_
     refine sc_text [3, 3] ?_
     refine sr_pu rfl (fun _ => rd_seq (ev_t rfl) ev_c) ?_
     refine sr_pu rfl (fun _ => rd_assign (ev_t rfl)) ?_
     refine sr_sub [(4, _, _), (5, _, _), (6, _, _), (7, _, _), (8, _, _), (9, _, _), (10, _, _), (14, _, _), (15, _, _)] (sub_cons rfl (sub_cons rfl (sub_cons rfl (sub_cons rfl (sub_cons rfl (sub_cons rfl (sub_cons rfl (sub_cons rfl (sub_cons rfl (sub_nil _)))))))))) ?_
     refine sr_nil (hK10 _ _ ?_)
     refine' sc_or [(4, _, _), (5, _, _), (6, _, _), (7, _, _), (8, _, _), (9, _, _), (10, _, _), (14, _, _)] (sub_cons rfl (sub_cons rfl (sub_cons rfl (sub_cons rfl (sub_cons rfl (sub_cons rfl (sub_cons rfl (sub_cons rfl (sub_cons rfl (sub_nil _)))))))))) rfl (fun hb4 => ?y4) (fun a ha => ⟨ha, rfl⟩)
     case y4 =>
      refine sc_text [3, 3] ?_
      refine sr_pu rfl (fun _ => rd_seq (ev_t rfl) ev_c) ?_
      refine sr_pu rfl (fun _ => rd_assign (ev_t rfl)) ?_
      refine sr_sub [(15, _, _), (4, _, _), (5, _, _), (6, _, _), (7, _, _), (8, _, _), (9, _, _), (10, _, _), (14, _, _)] (sub_cons rfl (sub_cons rfl (sub_cons rfl (sub_cons rfl (sub_cons rfl (sub_cons rfl (sub_cons rfl (sub_cons rfl (sub_cons rfl (sub_nil _)))))))))) ?_
      exact sr_nil (fun a ha => ⟨ha, rfl⟩)
  case n1 =>
   refine sc_cond (ev_t rfl) (fun h5 => ?_) (fun h5 => ?_)
   · (try simp only [bsimp] at h5)
     refine sc_seq fun K11 hK11 => ?_
     refine sc_text [3, 0, 1] ?_
     refine sr_pu rfl (fun _ => rd_move (ev_t rfl)) ?_
     refine sr_rd rfl (rd_loads agg_api_Type (ev_t rfl) rfl (fun _ => B8.row)) ?_
     refine sr_pure rfl (rc_call go_types_Binary_1 (ev_t rfl) (args_cons (ev_t rfl) (args_nil)) rfl) (tboth_ok a b tInt _ _ _ B4 B5) (fun w23 g23 => ?_)
     have g := g.trans (g23)
     replace B4 := B4.grow (g23)
     replace B5 := B5.grow (g23)
     replace B6 := B6.grow (g23)
     replace B8 := B8.grow (g23)
     replace B9 := B9.grow (g23)
     refine sr_sub [(6, _, _), (7, _, _), (8, _, _), (23, _, _)] (sub_cons rfl (sub_cons rfl (sub_cons rfl (sub_cons rfl (sub_nil _))))) ?_
     refine sr_nil (hK11 _ _ ?_)
     refine sc_cond (ev_t rfl) (fun h6 => ?_) (fun h6 => ?_)
     · (try simp only [bsimp] at h6)
       refine sc_seq fun K12 hK12 => ?_
       refine sc_text [0, 2, 3] ?_
       refine sr_rd rfl (rd_loads agg_api_Type (ev_t rfl) rfl (fun _ => B8.row)) ?_
       refine sr_store_all rfl sz_api_Type (ev_t rfl) (ev_t rfl) rfl rfl B6 rfl rfl ?_
       intro wS3 hgS3 hzS3
       clear B6
       intro B6
       replace B4 := B4.keep hgS3 (by intro h; injection h with h; omega)
       replace B5 := B5.keep hgS3 (by intro h; injection h with h; omega)
       replace B8 := B8.keep hgS3 (by intro h; injection h with h; omega)
       replace B9 := B9.keep hgS3 (by intro h; injection h with h; omega)
       have g := g_only g hgS3 (by intro k hk; injection hk with hk; omega)
       refine sr_pu rfl (fun _ => rd_assign ev_c) ?_
       refine sr_sub [(6, _, _), (7, _, _)] (sub_cons rfl (sub_cons rfl (sub_nil _))) ?_
       refine sr_nil (hK12 _ _ ?_)
       refine sc_ret (t_retv (rs := [.cell 6 23, .tmp 7]) (vs := [_, _]) rfl rfl (evr_c rfl agg_api_Type rfl (by first | exact B4.row | exact B5.row | exact B6.row | exact B8.row | exact B9.row) (evr_t rfl (evr_nil))) rfl ?_)
       refine ⟨?_, g⟩
       unfold binT; simp only [anyS, opAr, opLt, opEq, opLo, h5, h6, cond_true, cond_false]; rfl
     · (try simp only [bsimp] at h6)
       refine sc_skip (hK4 _ _ ?_)
       refine sc_sub [(6, _, _), (7, _, _)] (sub_cons rfl (sub_cons rfl (sub_nil _))) ?_
       refine sc_seq fun K13 hK13 => ?_
       refine sc_text [3, 2, 3] ?_
       refine sr_pu rfl (fun _ => rd_build [_, _] ze_api_Type rfl pl_api_Type (parts_nil) rfl) ?_
       refine sr_store_all rfl sz_api_Type (ev_t rfl) (ev_t rfl) rfl rfl B6 rfl rfl ?_
       intro wS4 hgS4 hzS4
       clear B6
       intro B6
       replace B4 := B4.keep hgS4 (by intro h; injection h with h; omega)
       replace B5 := B5.keep hgS4 (by intro h; injection h with h; omega)
       replace B8 := B8.keep hgS4 (by intro h; injection h with h; omega)
       replace B9 := B9.keep hgS4 (by intro h; injection h with h; omega)
       have g := g_only g hgS4 (by intro k hk; injection hk with hk; omega)
       refine sr_pu rfl (fun _ => rd_assign ev_c) ?_
       refine sr_nil (hK13 _ _ ?_)
       refine sc_ret (t_retv (rs := [.cell 6 23, .tmp 7]) (vs := [_, _]) rfl rfl (evr_c rfl agg_api_Type rfl (by first | exact B4.row | exact B5.row | exact B6.row | exact B8.row | exact B9.row) (evr_t rfl (evr_nil))) rfl ?_)
       refine ⟨?_, g⟩
       unfold binT; simp only [anyS, opAr, opLt, opEq, opLo, h5, h6, cond_true, cond_false]; rfl
   · (try simp only [bsimp] at h5)
     refine sc_seq fun K14 hK14 => ?_
     refine sc_seq fun K15 hK15 => ?_
     refine sc_text [3, 3] ?_
     refine sr_pu rfl (fun _ => rd_seq (ev_t rfl) ev_c) ?_
     refine sr_pu rfl (fun _ => rd_assign (ev_t rfl)) ?_
     refine sr_sub [(4, _, _), (5, _, _), (6, _, _), (7, _, _), (8, _, _), (9, _, _), (10, _, _), (14, _, _), (25, _, _)] (sub_cons rfl (sub_cons rfl (sub_cons rfl (sub_cons rfl (sub_cons rfl (sub_cons rfl (sub_cons rfl (sub_cons rfl (sub_cons rfl (sub_nil _)))))))))) ?_
     refine sr_nil (hK15 _ _ ?_)
     refine' sc_or [(4, _, _), (5, _, _), (6, _, _), (7, _, _), (8, _, _), (9, _, _), (10, _, _), (14, _, _)] (sub_cons rfl (sub_cons rfl (sub_cons rfl (sub_cons rfl (sub_cons rfl (sub_cons rfl (sub_cons rfl (sub_cons rfl (sub_cons rfl (sub_nil _)))))))))) rfl (fun hb7 => ?y7) (hK14 _ _ ?n7)
     case y7 =>
      refine sc_seq fun K16 hK16 => ?_
      refine sc_text [3, 3] ?_
      refine sr_pu rfl (fun _ => rd_seq (ev_t rfl) ev_c) ?_
      refine sr_pu rfl (fun _ => rd_assign (ev_t rfl)) ?_
      refine sr_sub [(4, _, _), (5, _, _), (6, _, _), (7, _, _), (8, _, _), (9, _, _), (10, _, _), (14, _, _), (25, _, _)] (sub_cons rfl (sub_cons rfl (sub_cons rfl (sub_cons rfl (sub_cons rfl (sub_cons rfl (sub_cons rfl (sub_cons rfl (sub_cons rfl (sub_nil _)))))))))) ?_
      refine sr_nil (hK16 _ _ ?_)
      refine' sc_or [(4, _, _), (5, _, _), (6, _, _), (7, _, _), (8, _, _), (9, _, _), (10, _, _), (14, _, _)] (sub_cons rfl (sub_cons rfl (sub_cons rfl (sub_cons rfl (sub_cons rfl (sub_cons rfl (sub_cons rfl (sub_cons rfl (sub_cons rfl (sub_nil _)))))))))) rfl (fun hb8 => ?y8) (fun a ha => ⟨ha, rfl⟩)
      case y8 =>
       refine sc_seq fun K17 hK17 => ?_
       refine sc_text [3, 3] ?_
       refine sr_pu rfl (fun _ => rd_seq (ev_t rfl) ev_c) ?_
       refine sr_pu rfl (fun _ => rd_assign (ev_t rfl)) ?_
       refine sr_sub [(4, _, _), (5, _, _), (6, _, _), (7, _, _), (8, _, _), (9, _, _), (10, _, _), (14, _, _), (25, _, _)] (sub_cons rfl (sub_cons rfl (sub_cons rfl (sub_cons rfl (sub_cons rfl (sub_cons rfl (sub_cons rfl (sub_cons rfl (sub_cons rfl (sub_nil _)))))))))) ?_
       refine sr_nil (hK17 _ _ ?_)
       refine' sc_or [(4, _, _), (5, _, _), (6, _, _), (7, _, _), (8, _, _), (9, _, _), (10, _, _), (14, _, _)] (sub_cons rfl (sub_cons rfl (sub_cons rfl (sub_cons rfl (sub_cons rfl (sub_cons rfl (sub_cons rfl (sub_cons rfl (sub_cons rfl (sub_nil _)))))))))) rfl (fun hb9 => ?y9) (fun a ha => ⟨ha, rfl⟩)
       case y9 =>
        refine sc_text [3, 3] ?_
        refine sr_pu rfl (fun _ => rd_seq (ev_t rfl) ev_c) ?_
        refine sr_pu rfl (fun _ => rd_assign (ev_t rfl)) ?_
        refine sr_sub [(25, _, _), (4, _, _), (5, _, _), (6, _, _), (7, _, _), (8, _, _), (9, _, _), (10, _, _), (14, _, _)] (sub_cons rfl (sub_cons rfl (sub_cons rfl (sub_cons rfl (sub_cons rfl (sub_cons rfl (sub_cons rfl (sub_cons rfl (sub_cons rfl (sub_nil _)))))))))) ?_
        exact sr_nil (fun a ha => ⟨ha, rfl⟩)
     case n7 =>
      refine sc_cond (ev_t rfl) (fun h10 => ?_) (fun h10 => ?_)
      · (try simp only [bsimp] at h10)
        refine sc_seq fun K18 hK18 => ?_
        refine sc_text [3, 0, 1] ?_
        refine sr_pu rfl (fun _ => rd_move (ev_t rfl)) ?_
        refine sr_rd rfl (rd_loads agg_api_Type (ev_t rfl) rfl (fun _ => B8.row)) ?_
        refine sr_pure rfl (rc_call go_types_Binary_1 (ev_t rfl) (args_cons (ev_t rfl) (args_nil)) rfl) (tboth_ok a b tInt _ _ _ B4 B5) (fun w32 g32 => ?_)
        have g := g.trans (g32)
        replace B4 := B4.grow (g32)
        replace B5 := B5.grow (g32)
        replace B6 := B6.grow (g32)
        replace B8 := B8.grow (g32)
        replace B9 := B9.grow (g32)
        refine sr_sub [(6, _, _), (7, _, _), (9, _, _), (32, _, _)] (sub_cons rfl (sub_cons rfl (sub_cons rfl (sub_cons rfl (sub_nil _))))) ?_
        refine sr_nil (hK18 _ _ ?_)
        refine sc_cond (ev_t rfl) (fun h11 => ?_) (fun h11 => ?_)
        · (try simp only [bsimp] at h11)
          refine sc_seq fun K19 hK19 => ?_
          refine sc_text [0, 2, 3] ?_
          refine sr_rd rfl (rd_loads agg_api_Type (ev_t rfl) rfl (fun _ => B9.row)) ?_
          refine sr_store_all rfl sz_api_Type (ev_t rfl) (ev_t rfl) rfl rfl B6 rfl rfl ?_
          intro wS5 hgS5 hzS5
          clear B6
          intro B6
          replace B4 := B4.keep hgS5 (by intro h; injection h with h; omega)
          replace B5 := B5.keep hgS5 (by intro h; injection h with h; omega)
          replace B8 := B8.keep hgS5 (by intro h; injection h with h; omega)
          replace B9 := B9.keep hgS5 (by intro h; injection h with h; omega)
          have g := g_only g hgS5 (by intro k hk; injection hk with hk; omega)
          refine sr_pu rfl (fun _ => rd_assign ev_c) ?_
          refine sr_sub [(6, _, _), (7, _, _)] (sub_cons rfl (sub_cons rfl (sub_nil _))) ?_
          refine sr_nil (hK19 _ _ ?_)
          refine sc_ret (t_retv (rs := [.cell 6 23, .tmp 7]) (vs := [_, _]) rfl rfl (evr_c rfl agg_api_Type rfl (by first | exact B4.row | exact B5.row | exact B6.row | exact B8.row | exact B9.row) (evr_t rfl (evr_nil))) rfl ?_)
          refine ⟨?_, g⟩
          unfold binT; simp only [anyS, opAr, opLt, opEq, opLo, h5, h10, h11, cond_true, cond_false]; rfl
        · (try simp only [bsimp] at h11)
          refine sc_skip (hK4 _ _ ?_)
          refine sc_sub [(6, _, _), (7, _, _)] (sub_cons rfl (sub_cons rfl (sub_nil _))) ?_
          refine sc_seq fun K20 hK20 => ?_
          refine sc_text [3, 2, 3] ?_
          refine sr_pu rfl (fun _ => rd_build [_, _] ze_api_Type rfl pl_api_Type (parts_nil) rfl) ?_
          refine sr_store_all rfl sz_api_Type (ev_t rfl) (ev_t rfl) rfl rfl B6 rfl rfl ?_
          intro wS6 hgS6 hzS6
          clear B6
          intro B6
          replace B4 := B4.keep hgS6 (by intro h; injection h with h; omega)
          replace B5 := B5.keep hgS6 (by intro h; injection h with h; omega)
          replace B8 := B8.keep hgS6 (by intro h; injection h with h; omega)
          replace B9 := B9.keep hgS6 (by intro h; injection h with h; omega)
          have g := g_only g hgS6 (by intro k hk; injection hk with hk; omega)
          refine sr_pu rfl (fun _ => rd_assign ev_c) ?_
          refine sr_nil (hK20 _ _ ?_)
          refine sc_ret (t_retv (rs := [.cell 6 23, .tmp 7]) (vs := [_, _]) rfl rfl (evr_c rfl agg_api_Type rfl (by first | exact B4.row | exact B5.row | exact B6.row | exact B8.row | exact B9.row) (evr_t rfl (evr_nil))) rfl ?_)
          refine ⟨?_, g⟩
          unfold binT; simp only [anyS, opAr, opLt, opEq, opLo, h5, h10, h11, cond_true, cond_false]; rfl
      · (try simp only [bsimp] at h10)
        refine sc_seq fun K21 hK21 => ?_
        refine sc_seq fun K22 hK22 => ?_
        refine sc_text [3, 3] ?_
        refine sr_pu rfl (fun _ => rd_seq (ev_t rfl) ev_c) ?_
        refine sr_pu rfl (fun _ => rd_assign (ev_t rfl)) ?_
        refine sr_sub [(4, _, _), (5, _, _), (6, _, _), (7, _, _), (9, _, _), (10, _, _), (14, _, _), (34, _, _)] (sub_cons rfl (sub_cons rfl (sub_cons rfl (sub_cons rfl (sub_cons rfl (sub_cons rfl (sub_cons rfl (sub_cons rfl (sub_nil _))))))))) ?_
        refine sr_nil (hK22 _ _ ?_)
        refine' sc_or [(4, _, _), (5, _, _), (6, _, _), (7, _, _), (9, _, _), (10, _, _), (14, _, _)] (sub_cons rfl (sub_cons rfl (sub_cons rfl (sub_cons rfl (sub_cons rfl (sub_cons rfl (sub_cons rfl (sub_cons rfl (sub_nil _))))))))) rfl (fun hb12 => ?y12) (hK21 _ _ ?n12)
        case y12 =>
         refine sc_text [3, 3] ?_
         refine sr_pu rfl (fun _ => rd_seq (ev_t rfl) ev_c) ?_
         refine sr_pu rfl (fun _ => rd_assign (ev_t rfl)) ?_
         refine sr_sub [(34, _, _), (4, _, _), (5, _, _), (6, _, _), (7, _, _), (9, _, _), (10, _, _), (14, _, _)] (sub_cons rfl (sub_cons rfl (sub_cons rfl (sub_cons rfl (sub_cons rfl (sub_cons rfl (sub_cons rfl (sub_cons rfl (sub_nil _))))))))) ?_
         exact sr_nil (fun a ha => ⟨ha, rfl⟩)
        case n12 =>
         refine sc_cond (ev_t rfl) (fun h13 => ?_) (fun h13 => ?_)
         · (try simp only [bsimp] at h13)
           refine sc_seq fun K23 hK23 => ?_
           refine sc_text [0, 0, 1] ?_
           refine sr_rd rfl (rd_loads agg_api_Type (ev_t rfl) rfl (fun _ => B4.row)) ?_
           refine sr_rd rfl (rd_loads agg_api_Type (ev_t rfl) rfl (fun _ => B5.row)) ?_
           refine sr_pure rfl (rc_call go_types_Comparable ev_f (args_cons (ev_t rfl) (args_cons (ev_t rfl) (args_nil))) rfl) (tcomp_ok _ _ _ (hL.grow g) (by have := g.size; omega)) (fun w39 g39 => ?_)
           have g := g.trans (g39)
           replace B4 := B4.grow (g39)
           replace B5 := B5.grow (g39)
           replace B6 := B6.grow (g39)
           replace B8 := B8.grow (g39)
           replace B9 := B9.grow (g39)
           refine sr_sub [(6, _, _), (7, _, _), (9, _, _), (39, _, _)] (sub_cons rfl (sub_cons rfl (sub_cons rfl (sub_cons rfl (sub_nil _))))) ?_
           refine sr_nil (hK23 _ _ ?_)
           refine sc_cond (ev_t rfl) (fun h14 => ?_) (fun h14 => ?_)
           · (try simp only [bsimp] at h14)
             refine sc_seq fun K24 hK24 => ?_
             refine sc_text [0, 2, 3] ?_
             refine sr_rd rfl (rd_loads agg_api_Type (ev_t rfl) rfl (fun _ => B9.row)) ?_
             refine sr_store_all rfl sz_api_Type (ev_t rfl) (ev_t rfl) rfl rfl B6 rfl rfl ?_
             intro wS7 hgS7 hzS7
             clear B6
             intro B6
             replace B4 := B4.keep hgS7 (by intro h; injection h with h; omega)
             replace B5 := B5.keep hgS7 (by intro h; injection h with h; omega)
             replace B8 := B8.keep hgS7 (by intro h; injection h with h; omega)
             replace B9 := B9.keep hgS7 (by intro h; injection h with h; omega)
             have g := g_only g hgS7 (by intro k hk; injection hk with hk; omega)
             refine sr_pu rfl (fun _ => rd_assign ev_c) ?_
             refine sr_sub [(6, _, _), (7, _, _)] (sub_cons rfl (sub_cons rfl (sub_nil _))) ?_
             refine sr_nil (hK24 _ _ ?_)
             refine sc_ret (t_retv (rs := [.cell 6 23, .tmp 7]) (vs := [_, _]) rfl rfl (evr_c rfl agg_api_Type rfl (by first | exact B4.row | exact B5.row | exact B6.row | exact B8.row | exact B9.row) (evr_t rfl (evr_nil))) rfl ?_)
             refine ⟨?_, g⟩
             unfold binT; simp only [anyS, opAr, opLt, opEq, opLo, h5, h10, h13, h14, cond_true, cond_false]; rfl
           · (try simp only [bsimp] at h14)
             refine sc_skip (hK4 _ _ ?_)
             refine sc_sub [(6, _, _), (7, _, _)] (sub_cons rfl (sub_cons rfl (sub_nil _))) ?_
             refine sc_seq fun K25 hK25 => ?_
             refine sc_text [3, 2, 3] ?_
             refine sr_pu rfl (fun _ => rd_build [_, _] ze_api_Type rfl pl_api_Type (parts_nil) rfl) ?_
             refine sr_store_all rfl sz_api_Type (ev_t rfl) (ev_t rfl) rfl rfl B6 rfl rfl ?_
             intro wS8 hgS8 hzS8
             clear B6
             intro B6
             replace B4 := B4.keep hgS8 (by intro h; injection h with h; omega)
             replace B5 := B5.keep hgS8 (by intro h; injection h with h; omega)
             replace B8 := B8.keep hgS8 (by intro h; injection h with h; omega)
             replace B9 := B9.keep hgS8 (by intro h; injection h with h; omega)
             have g := g_only g hgS8 (by intro k hk; injection hk with hk; omega)
             refine sr_pu rfl (fun _ => rd_assign ev_c) ?_
             refine sr_nil (hK25 _ _ ?_)
             refine sc_ret (t_retv (rs := [.cell 6 23, .tmp 7]) (vs := [_, _]) rfl rfl (evr_c rfl agg_api_Type rfl (by first | exact B4.row | exact B5.row | exact B6.row | exact B8.row | exact B9.row) (evr_t rfl (evr_nil))) rfl ?_)
             refine ⟨?_, g⟩
             unfold binT; simp only [anyS, opAr, opLt, opEq, opLo, h5, h10, h13, h14, cond_true, cond_false]; rfl
         · (try simp only [bsimp] at h13)
           refine sc_seq fun K26 hK26 => ?_
           refine sc_seq fun K27 hK27 => ?_
           refine sc_text [3, 3] ?_
           refine sr_pu rfl (fun _ => rd_seq (ev_t rfl) ev_c) ?_
           refine sr_pu rfl (fun _ => rd_assign (ev_t rfl)) ?_
           refine sr_sub [(6, _, _), (7, _, _), (9, _, _), (10, _, _), (14, _, _), (41, _, _)] (sub_cons rfl (sub_cons rfl (sub_cons rfl (sub_cons rfl (sub_cons rfl (sub_cons rfl (sub_nil _))))))) ?_
           refine sr_nil (hK27 _ _ ?_)
           refine' sc_or [(6, _, _), (7, _, _), (9, _, _), (10, _, _)] (sub_cons rfl (sub_cons rfl (sub_cons rfl (sub_cons rfl (sub_cons rfl (sub_nil _)))))) rfl (fun hb15 => ?y15) (hK26 _ _ ?n15)
           case y15 =>
            refine sc_text [3, 3] ?_
            refine sr_pu rfl (fun _ => rd_seq (ev_t rfl) ev_c) ?_
            refine sr_pu rfl (fun _ => rd_assign (ev_t rfl)) ?_
            refine sr_sub [(41, _, _), (6, _, _), (7, _, _), (9, _, _), (10, _, _)] (sub_cons rfl (sub_cons rfl (sub_cons rfl (sub_cons rfl (sub_cons rfl (sub_nil _)))))) ?_
            exact sr_nil (fun a ha => ⟨ha, rfl⟩)
           case n15 =>
            refine sc_cond (ev_t rfl) (fun h16 => ?_) (fun h16 => ?_)
            · (try simp only [bsimp] at h16)
              refine sc_seq fun K28 hK28 => ?_
              refine sc_text [3, 0, 1] ?_
              refine sr_pu rfl (fun _ => rd_move (ev_t rfl)) ?_
              refine sr_rd rfl (rd_loads agg_api_Type (ev_t rfl) rfl (fun _ => B9.row)) ?_
              refine sr_pure rfl (rc_call go_types_Binary_1 (ev_t rfl) (args_cons (ev_t rfl) (args_nil)) rfl) (tboth_ok a b tBool _ _ _ B4 B5) (fun w46 g46 => ?_)
              have g := g.trans (g46)
              replace B4 := B4.grow (g46)
              replace B5 := B5.grow (g46)
              replace B6 := B6.grow (g46)
              replace B8 := B8.grow (g46)
              replace B9 := B9.grow (g46)
              refine sr_sub [(6, _, _), (7, _, _), (9, _, _), (46, _, _)] (sub_cons rfl (sub_cons rfl (sub_cons rfl (sub_cons rfl (sub_nil _))))) ?_
              refine sr_nil (hK28 _ _ ?_)
              refine sc_cond (ev_t rfl) (fun h17 => ?_) (fun h17 => ?_)
              · (try simp only [bsimp] at h17)
                refine sc_seq fun K29 hK29 => ?_
                refine sc_text [0, 2, 3] ?_
                refine sr_rd rfl (rd_loads agg_api_Type (ev_t rfl) rfl (fun _ => B9.row)) ?_
                refine sr_store_all rfl sz_api_Type (ev_t rfl) (ev_t rfl) rfl rfl B6 rfl rfl ?_
                intro wS9 hgS9 hzS9
                clear B6
                intro B6
                replace B4 := B4.keep hgS9 (by intro h; injection h with h; omega)
                replace B5 := B5.keep hgS9 (by intro h; injection h with h; omega)
                replace B8 := B8.keep hgS9 (by intro h; injection h with h; omega)
                replace B9 := B9.keep hgS9 (by intro h; injection h with h; omega)
                have g := g_only g hgS9 (by intro k hk; injection hk with hk; omega)
                refine sr_pu rfl (fun _ => rd_assign ev_c) ?_
                refine sr_sub [(6, _, _), (7, _, _)] (sub_cons rfl (sub_cons rfl (sub_nil _))) ?_
                refine sr_nil (hK29 _ _ ?_)
                refine sc_ret (t_retv (rs := [.cell 6 23, .tmp 7]) (vs := [_, _]) rfl rfl (evr_c rfl agg_api_Type rfl (by first | exact B4.row | exact B5.row | exact B6.row | exact B8.row | exact B9.row) (evr_t rfl (evr_nil))) rfl ?_)
                refine ⟨?_, g⟩
                unfold binT; simp only [anyS, opAr, opLt, opEq, opLo, h5, h10, h13, h16, h17, cond_true, cond_false]; rfl
              · (try simp only [bsimp] at h17)
                refine sc_skip (hK4 _ _ ?_)
                refine sc_sub [(6, _, _), (7, _, _)] (sub_cons rfl (sub_cons rfl (sub_nil _))) ?_
                refine sc_seq fun K30 hK30 => ?_
                refine sc_text [3, 2, 3] ?_
                refine sr_pu rfl (fun _ => rd_build [_, _] ze_api_Type rfl pl_api_Type (parts_nil) rfl) ?_
                refine sr_store_all rfl sz_api_Type (ev_t rfl) (ev_t rfl) rfl rfl B6 rfl rfl ?_
                intro wS10 hgS10 hzS10
                clear B6
                intro B6
                replace B4 := B4.keep hgS10 (by intro h; injection h with h; omega)
                replace B5 := B5.keep hgS10 (by intro h; injection h with h; omega)
                replace B8 := B8.keep hgS10 (by intro h; injection h with h; omega)
                replace B9 := B9.keep hgS10 (by intro h; injection h with h; omega)
                have g := g_only g hgS10 (by intro k hk; injection hk with hk; omega)
                refine sr_pu rfl (fun _ => rd_assign ev_c) ?_
                refine sr_nil (hK30 _ _ ?_)
                refine sc_ret (t_retv (rs := [.cell 6 23, .tmp 7]) (vs := [_, _]) rfl rfl (evr_c rfl agg_api_Type rfl (by first | exact B4.row | exact B5.row | exact B6.row | exact B8.row | exact B9.row) (evr_t rfl (evr_nil))) rfl ?_)
                refine ⟨?_, g⟩
                unfold binT; simp only [anyS, opAr, opLt, opEq, opLo, h5, h10, h13, h16, h17, cond_true, cond_false]; rfl
            · (try simp only [bsimp] at h16)
              refine sc_skip (hK4 _ _ ?_)
              refine sc_sub [(6, _, _), (7, _, _)] (sub_cons rfl (sub_cons rfl (sub_nil _))) ?_
              refine sc_seq fun K31 hK31 => ?_
              refine sc_text [3, 2, 3] ?_
              refine sr_pu rfl (fun _ => rd_build [_, _] ze_api_Type rfl pl_api_Type (parts_nil) rfl) ?_
              refine sr_store_all rfl sz_api_Type (ev_t rfl) (ev_t rfl) rfl rfl B6 rfl rfl ?_
              intro wS11 hgS11 hzS11
              clear B6
              intro B6
              replace B4 := B4.keep hgS11 (by intro h; injection h with h; omega)
              replace B5 := B5.keep hgS11 (by intro h; injection h with h; omega)
              replace B8 := B8.keep hgS11 (by intro h; injection h with h; omega)
              replace B9 := B9.keep hgS11 (by intro h; injection h with h; omega)
              have g := g_only g hgS11 (by intro k hk; injection hk with hk; omega)
              refine sr_pu rfl (fun _ => rd_assign ev_c) ?_
              refine sr_nil (hK31 _ _ ?_)
              refine sc_ret (t_retv (rs := [.cell 6 23, .tmp 7]) (vs := [_, _]) rfl rfl (evr_c rfl agg_api_Type rfl (by first | exact B4.row | exact B5.row | exact B6.row | exact B8.row | exact B9.row) (evr_t rfl (evr_nil))) rfl ?_)
              refine ⟨?_, g⟩
              unfold binT; simp only [anyS, opAr, opLt, opEq, opLo, h5, h10, h13, h16, cond_true, cond_false]; rfl
theorem rbin_ok (op : List UInt8) (a b : Ty) (w : World) : Ret PP fn_r05_Binary #[Str op, tyV a, tyV b] w fun v w' => v = .tuple #[tyV (binT op a b).1, .bool (binT op a b).2] ∧ G w w' := by
  have g := G.refl w
  refine ret_of_sc (m := 62) func_r05_Binary rfl rfl [(0, True, _), (1, True, _), (2, True, _)] (sub_cons rfl (sub_cons rfl (sub_cons rfl (sub_nil _)))) ?_
  refine sc_seq fun K1 hK1 => ?_
  refine sc_text [1, 1, 1, 3] ?_
  refine sr_box rfl (ev_t rfl) rfl ?_
  intro b4 w4 N4
  have l4 := N4.ge g
  have g := g.trans (N4.g)
  have B4 := N4.blk
  refine sr_box rfl (ev_t rfl) rfl ?_
  intro b5 w5 N5
  have x5_4 := N5.ne B4
  have l5 := N5.ge g
  have g := g.trans (N5.g)
  replace B4 := B4.grow (N5.g)
  have B5 := N5.blk
  refine sr_alloc rfl ze_api_Type rfl ?_
  intro b6 w6 N6
  have x6_4 := N6.ne B4
  have x6_5 := N6.ne B5
  have l6 := N6.ge g
  have g := g.trans (N6.g)
  replace B4 := B4.grow (N6.g)
  replace B5 := B5.grow (N6.g)
  have B6 := N6.blk
  refine sr_pu rfl (fun _ => rd_assign ev_c) ?_
  refine sr_sub [(0, _, _), (4, _, _), (5, _, _), (6, _, _), (7, _, _)] (sub_cons rfl (sub_cons rfl (sub_cons rfl (sub_cons rfl (sub_cons rfl (sub_nil _)))))) ?_
  refine sr_nil (hK1 _ _ ?_)
  refine sc_seq fun K2 hK2 => ?_
  refine sc_text [3, 3, 1, 1, 2, 2] ?_
  refine sr_pu rfl (fun _ => rd_build [_, _] ze_api_Type rfl pl_api_Type (parts_cons ev_c (parts_nil)) rfl) ?_
  refine sr_pu rfl (fun _ => rd_build [_, _] ze_api_Type rfl pl_api_Type (parts_cons ev_c (parts_nil)) rfl) ?_
  refine sr_alloc rfl ze_api_Type rfl ?_
  intro b8 w8 N8
  have x8_4 := N8.ne B4
  have x8_5 := N8.ne B5
  have x8_6 := N8.ne B6
  have l8 := N8.ge g
  have g := g.trans (N8.g)
  replace B4 := B4.grow (N8.g)
  replace B5 := B5.grow (N8.g)
  replace B6 := B6.grow (N8.g)
  have B8 := N8.blk
  refine sr_alloc rfl ze_api_Type rfl ?_
  intro b9 w9 N9
  have x9_4 := N9.ne B4
  have x9_5 := N9.ne B5
  have x9_6 := N9.ne B6
  have x9_8 := N9.ne B8
  have l9 := N9.ge g
  have g := g.trans (N9.g)
  replace B4 := B4.grow (N9.g)
  replace B5 := B5.grow (N9.g)
  replace B6 := B6.grow (N9.g)
  replace B8 := B8.grow (N9.g)
  have B9 := N9.blk
  refine sr_store_all rfl sz_api_Type (ev_t rfl) (ev_t rfl) rfl rfl B8 rfl rfl ?_
  intro wS1 hgS1 hzS1
  clear B8
  intro B8
  replace B4 := B4.keep hgS1 (by intro h; injection h with h; omega)
  replace B5 := B5.keep hgS1 (by intro h; injection h with h; omega)
  replace B6 := B6.keep hgS1 (by intro h; injection h with h; omega)
  replace B9 := B9.keep hgS1 (by intro h; injection h with h; omega)
  have g := g_only g hgS1 (by intro k hk; injection hk with hk; omega)
  refine sr_store_all rfl sz_api_Type (ev_t rfl) (ev_t rfl) rfl rfl B9 rfl rfl ?_
  intro wS2 hgS2 hzS2
  clear B9
  intro B9
  replace B4 := B4.keep hgS2 (by intro h; injection h with h; omega)
  replace B5 := B5.keep hgS2 (by intro h; injection h with h; omega)
  replace B6 := B6.keep hgS2 (by intro h; injection h with h; omega)
  replace B8 := B8.keep hgS2 (by intro h; injection h with h; omega)
  have g := g_only g hgS2 (by intro k hk; injection hk with hk; omega)
  refine sr_sub [(0, _, _), (4, _, _), (5, _, _), (6, _, _), (7, _, _), (8, _, _), (9, _, _)] (sub_cons rfl (sub_cons rfl (sub_cons rfl (sub_cons rfl (sub_cons rfl (sub_cons rfl (sub_cons rfl (sub_nil _)))))))) ?_
  refine sr_nil (hK2 _ _ ?_)
  refine sc_seq fun K3 hK3 => ?_
  refine sc_seq fun K4 hK4 => ?_
  refine sc_text [3] ?_
  refine sr_pu rfl (fun _ => rd_move (ev_t rfl)) ?_
  refine sr_sub [(4, _, _), (5, _, _), (6, _, _), (7, _, _), (8, _, _), (9, _, _), (12, _, _)] (sub_cons rfl (sub_cons rfl (sub_cons rfl (sub_cons rfl (sub_cons rfl (sub_cons rfl (sub_cons rfl (sub_nil _)))))))) ?_
  refine sr_nil (hK4 _ _ ?_)
  refine sc_block ?_
  refine sc_seq fun K5 hK5 => ?_
  refine sc_seq fun K6 hK6 => ?_
  refine sc_text [3, 3] ?_
  refine sr_pu rfl (fun _ => rd_seq (ev_t rfl) ev_c) ?_
  refine sr_pu rfl (fun _ => rd_assign (ev_t rfl)) ?_
  refine sr_sub [(4, _, _), (5, _, _), (6, _, _), (7, _, _), (8, _, _), (9, _, _), (12, _, _), (13, _, _)] (sub_cons rfl (sub_cons rfl (sub_cons rfl (sub_cons rfl (sub_cons rfl (sub_cons rfl (sub_cons rfl (sub_cons rfl (sub_nil _))))))))) ?_
  refine sr_nil (hK6 _ _ ?_)
  refine' sc_or [(4, _, _), (5, _, _), (6, _, _), (7, _, _), (8, _, _), (9, _, _), (12, _, _)] (sub_cons rfl (sub_cons rfl (sub_cons rfl (sub_cons rfl (sub_cons rfl (sub_cons rfl (sub_cons rfl (sub_cons rfl (sub_nil _))))))))) rfl (fun hb1 => ?y1) (hK5 _ _ ?n1)
  case y1 =>
   refine sc_seq fun K7 hK7 => ?_
   refine sc_text [3, 3] ?_
   refine sr_pu rfl (fun _ => rd_seq (ev_t rfl) ev_c) ?_
   refine sr_pu rfl (fun _ => rd_assign (ev_t rfl)) ?_
   refine sr_sub [(4, _, _), (5, _, _), (6, _, _), (7, _, _), (8, _, _), (9, _, _), (12, _, _), (13, _, _)] (sub_cons rfl (sub_cons rfl (sub_cons rfl (sub_cons rfl (sub_cons rfl (sub_cons rfl (sub_cons rfl (sub_cons rfl (sub_nil _))))))))) ?_
   refine sr_nil (hK7 _ _ ?_)
   refine' sc_or [(4, _, _), (5, _, _), (6, _, _), (7, _, _), (8, _, _), (9, _, _), (12, _, _)] (sub_cons rfl (sub_cons rfl (sub_cons rfl (sub_cons rfl (sub_cons rfl (sub_cons rfl (sub_cons rfl (sub_cons rfl (sub_nil _))))))))) rfl (fun hb2 => ?y2) (fun a ha => ⟨ha, rfl⟩)
   case y2 =>
    refine sc_seq fun K8 hK8 => ?_
    refine sc_text [3, 3] ?_
    refine sr_pu rfl (fun _ => rd_seq (ev_t rfl) ev_c) ?_
    refine sr_pu rfl (fun _ => rd_assign (ev_t rfl)) ?_
    refine sr_sub [(4, _, _), (5, _, _), (6, _, _), (7, _, _), (8, _, _), (9, _, _), (12, _, _), (13, _, _)] (sub_cons rfl (sub_cons rfl (sub_cons rfl (sub_cons rfl (sub_cons rfl (sub_cons rfl (sub_cons rfl (sub_cons rfl (sub_nil _))))))))) ?_
    refine sr_nil (hK8 _ _ ?_)
    refine' sc_or [(4, _, _), (5, _, _), (6, _, _), (7, _, _), (8, _, _), (9, _, _), (12, _, _)] (sub_cons rfl (sub_cons rfl (sub_cons rfl (sub_cons rfl (sub_cons rfl (sub_cons rfl (sub_cons rfl (sub_cons rfl (sub_nil _))))))))) rfl (fun hb3 => ?y3) (fun a ha => ⟨ha, rfl⟩)
    case y3 =>
     refine sc_seq fun K9 hK9 => ?_
     refine sc_text [3, 3] ?_
     refine sr_pu rfl (fun _ => rd_seq (ev_t rfl) ev_c) ?_
     refine sr_pu rfl (fun _ => rd_assign (ev_t rfl)) ?_
     refine sr_sub [(4, _, _), (5, _, _), (6, _, _), (7, _, _), (8, _, _), (9, _, _), (12, _, _), (13, _, _)] (sub_cons rfl (sub_cons rfl (sub_cons rfl (sub_cons rfl (sub_cons rfl (sub_cons rfl (sub_cons rfl (sub_cons rfl (sub_nil _))))))))) ?_
     refine sr_nil (hK9 _ _ ?_)
     refine' sc_or [(4, _, _), (5, _, _), (6, _, _), (7, _, _), (8, _, _), (9, _, _), (12, _, _)] (sub_cons rfl (sub_cons rfl (sub_cons rfl (sub_cons rfl (sub_cons rfl (sub_cons rfl (sub_cons rfl (sub_cons rfl (sub_nil _))))))))) rfl (fun hb4 => ?y4) (fun a ha => ⟨ha, rfl⟩)
     case y4 =>
      refine sc_text [3, 3] ?_
      refine sr_pu rfl (fun _ => rd_seq (ev_t rfl) ev_c) ?_
      refine sr_pu rfl (fun _ => rd_assign (ev_t rfl)) ?_
      refine sr_sub [(13, _, _), (4, _, _), (5, _, _), (6, _, _), (7, _, _), (8, _, _), (9, _, _), (12, _, _)] (sub_cons rfl (sub_cons rfl (sub_cons rfl (sub_cons rfl (sub_cons rfl (sub_cons rfl (sub_cons rfl (sub_cons rfl (sub_nil _))))))))) ?_
      exact sr_nil (fun a ha => ⟨ha, rfl⟩)
  case n1 =>
   refine sc_cond (ev_t rfl) (fun h5 => ?_) (fun h5 => ?_)
   · (try simp only [bsimp] at h5)
     refine sc_seq fun K10 hK10 => ?_
     refine sc_text [0, 0, 3, 3, 0, 0, 3, 3] ?_
     refine sr_rd rfl (rd_loads agg_api_Type (ev_t rfl) rfl (fun _ => B4.row)) ?_
     refine sr_rd rfl (rd_loads agg_api_Type (ev_t rfl) rfl (fun _ => B8.row)) ?_
     refine sr_pu rfl (fun _ => rd_steq fl_api_Type (ev_t rfl) (ev_t rfl) rfl) ?_
     refine sr_pu rfl (fun _ => rd_move (ev_t rfl)) ?_
     refine sr_rdg rfl rfl rfl (rd_loads agg_api_Type (ev_t rfl) rfl (fun _ => B5.row)) ?_
     refine sr_rdg rfl rfl rfl (rd_loads agg_api_Type (ev_t rfl) rfl (fun _ => B8.row)) ?_
     refine sr_pug rfl rfl rfl (fun _ => rd_steq fl_api_Type (ev_u rfl id) (ev_u rfl id) rfl) ?_
     refine sr_pu rfl (fun _ => rd_pick_and (ev_t rfl) (ev_u rfl id)) ?_
     refine sr_sub [(6, _, _), (7, _, _), (8, _, _), (26, _, _)] (sub_cons rfl (sub_cons rfl (sub_cons rfl (sub_cons rfl (sub_nil _))))) ?_
     refine sr_nil (hK10 _ _ ?_)
     refine sc_cond (ev_t rfl) (fun h6 => ?_) (fun h6 => ?_)
     · replace h6 : (tyEqB a tInt && tyEqB b tInt) = true := h6
       refine sc_seq fun K11 hK11 => ?_
       refine sc_text [0, 2, 3] ?_
       refine sr_rd rfl (rd_loads agg_api_Type (ev_t rfl) rfl (fun _ => B8.row)) ?_
       refine sr_store_all rfl sz_api_Type (ev_t rfl) (ev_t rfl) rfl rfl B6 rfl rfl ?_
       intro wS3 hgS3 hzS3
       clear B6
       intro B6
       replace B4 := B4.keep hgS3 (by intro h; injection h with h; omega)
       replace B5 := B5.keep hgS3 (by intro h; injection h with h; omega)
       replace B8 := B8.keep hgS3 (by intro h; injection h with h; omega)
       replace B9 := B9.keep hgS3 (by intro h; injection h with h; omega)
       have g := g_only g hgS3 (by intro k hk; injection hk with hk; omega)
       refine sr_pu rfl (fun _ => rd_assign ev_c) ?_
       refine sr_sub [(6, _, _), (7, _, _)] (sub_cons rfl (sub_cons rfl (sub_nil _))) ?_
       refine sr_nil (hK11 _ _ ?_)
       refine sc_ret (t_retv (rs := [.cell 6 23, .tmp 7]) (vs := [_, _]) rfl rfl (evr_c rfl agg_api_Type rfl (by first | exact B4.row | exact B5.row | exact B6.row | exact B8.row | exact B9.row) (evr_t rfl (evr_nil))) rfl ?_)
       refine ⟨?_, g⟩
       unfold binT; simp only [anyS, opAr, opLt, opEq, opLo, h5, h6, cond_true, cond_false]; rfl
     · replace h6 : (tyEqB a tInt && tyEqB b tInt) = false := h6
       refine sc_skip (hK3 _ _ ?_)
       refine sc_sub [(6, _, _), (7, _, _)] (sub_cons rfl (sub_cons rfl (sub_nil _))) ?_
       refine sc_seq fun K12 hK12 => ?_
       refine sc_text [3, 2, 3] ?_
       refine sr_pu rfl (fun _ => rd_build [_, _] ze_api_Type rfl pl_api_Type (parts_nil) rfl) ?_
       refine sr_store_all rfl sz_api_Type (ev_t rfl) (ev_t rfl) rfl rfl B6 rfl rfl ?_
       intro wS4 hgS4 hzS4
       clear B6
       intro B6
       replace B4 := B4.keep hgS4 (by intro h; injection h with h; omega)
       replace B5 := B5.keep hgS4 (by intro h; injection h with h; omega)
       replace B8 := B8.keep hgS4 (by intro h; injection h with h; omega)
       replace B9 := B9.keep hgS4 (by intro h; injection h with h; omega)
       have g := g_only g hgS4 (by intro k hk; injection hk with hk; omega)
       refine sr_pu rfl (fun _ => rd_assign ev_c) ?_
       refine sr_nil (hK12 _ _ ?_)
       refine sc_ret (t_retv (rs := [.cell 6 23, .tmp 7]) (vs := [_, _]) rfl rfl (evr_c rfl agg_api_Type rfl (by first | exact B4.row | exact B5.row | exact B6.row | exact B8.row | exact B9.row) (evr_t rfl (evr_nil))) rfl ?_)
       refine ⟨?_, g⟩
       unfold binT; simp only [anyS, opAr, opLt, opEq, opLo, h5, h6, cond_true, cond_false]; rfl
   · (try simp only [bsimp] at h5)
     refine sc_seq fun K13 hK13 => ?_
     refine sc_seq fun K14 hK14 => ?_
     refine sc_text [3, 3] ?_
     refine sr_pu rfl (fun _ => rd_seq (ev_t rfl) ev_c) ?_
     refine sr_pu rfl (fun _ => rd_assign (ev_t rfl)) ?_
     refine sr_sub [(4, _, _), (5, _, _), (6, _, _), (7, _, _), (8, _, _), (9, _, _), (12, _, _), (28, _, _)] (sub_cons rfl (sub_cons rfl (sub_cons rfl (sub_cons rfl (sub_cons rfl (sub_cons rfl (sub_cons rfl (sub_cons rfl (sub_nil _))))))))) ?_
     refine sr_nil (hK14 _ _ ?_)
     refine' sc_or [(4, _, _), (5, _, _), (6, _, _), (7, _, _), (8, _, _), (9, _, _), (12, _, _)] (sub_cons rfl (sub_cons rfl (sub_cons rfl (sub_cons rfl (sub_cons rfl (sub_cons rfl (sub_cons rfl (sub_cons rfl (sub_nil _))))))))) rfl (fun hb7 => ?y7) (hK13 _ _ ?n7)
     case y7 =>
      refine sc_seq fun K15 hK15 => ?_
      refine sc_text [3, 3] ?_
      refine sr_pu rfl (fun _ => rd_seq (ev_t rfl) ev_c) ?_
      refine sr_pu rfl (fun _ => rd_assign (ev_t rfl)) ?_
      refine sr_sub [(4, _, _), (5, _, _), (6, _, _), (7, _, _), (8, _, _), (9, _, _), (12, _, _), (28, _, _)] (sub_cons rfl (sub_cons rfl (sub_cons rfl (sub_cons rfl (sub_cons rfl (sub_cons rfl (sub_cons rfl (sub_cons rfl (sub_nil _))))))))) ?_
      refine sr_nil (hK15 _ _ ?_)
      refine' sc_or [(4, _, _), (5, _, _), (6, _, _), (7, _, _), (8, _, _), (9, _, _), (12, _, _)] (sub_cons rfl (sub_cons rfl (sub_cons rfl (sub_cons rfl (sub_cons rfl (sub_cons rfl (sub_cons rfl (sub_cons rfl (sub_nil _))))))))) rfl (fun hb8 => ?y8) (fun a ha => ⟨ha, rfl⟩)
      case y8 =>
       refine sc_seq fun K16 hK16 => ?_
       refine sc_text [3, 3] ?_
       refine sr_pu rfl (fun _ => rd_seq (ev_t rfl) ev_c) ?_
       refine sr_pu rfl (fun _ => rd_assign (ev_t rfl)) ?_
       refine sr_sub [(4, _, _), (5, _, _), (6, _, _), (7, _, _), (8, _, _), (9, _, _), (12, _, _), (28, _, _)] (sub_cons rfl (sub_cons rfl (sub_cons rfl (sub_cons rfl (sub_cons rfl (sub_cons rfl (sub_cons rfl (sub_cons rfl (sub_nil _))))))))) ?_
       refine sr_nil (hK16 _ _ ?_)
       refine' sc_or [(4, _, _), (5, _, _), (6, _, _), (7, _, _), (8, _, _), (9, _, _), (12, _, _)] (sub_cons rfl (sub_cons rfl (sub_cons rfl (sub_cons rfl (sub_cons rfl (sub_cons rfl (sub_cons rfl (sub_cons rfl (sub_nil _))))))))) rfl (fun hb9 => ?y9) (fun a ha => ⟨ha, rfl⟩)
       case y9 =>
        refine sc_text [3, 3] ?_
        refine sr_pu rfl (fun _ => rd_seq (ev_t rfl) ev_c) ?_
        refine sr_pu rfl (fun _ => rd_assign (ev_t rfl)) ?_
        refine sr_sub [(28, _, _), (4, _, _), (5, _, _), (6, _, _), (7, _, _), (8, _, _), (9, _, _), (12, _, _)] (sub_cons rfl (sub_cons rfl (sub_cons rfl (sub_cons rfl (sub_cons rfl (sub_cons rfl (sub_cons rfl (sub_cons rfl (sub_nil _))))))))) ?_
        exact sr_nil (fun a ha => ⟨ha, rfl⟩)
     case n7 =>
      refine sc_cond (ev_t rfl) (fun h10 => ?_) (fun h10 => ?_)
      · (try simp only [bsimp] at h10)
        refine sc_seq fun K17 hK17 => ?_
        refine sc_text [0, 0, 3, 3, 0, 0, 3, 3] ?_
        refine sr_rd rfl (rd_loads agg_api_Type (ev_t rfl) rfl (fun _ => B4.row)) ?_
        refine sr_rd rfl (rd_loads agg_api_Type (ev_t rfl) rfl (fun _ => B8.row)) ?_
        refine sr_pu rfl (fun _ => rd_steq fl_api_Type (ev_t rfl) (ev_t rfl) rfl) ?_
        refine sr_pu rfl (fun _ => rd_move (ev_t rfl)) ?_
        refine sr_rdg rfl rfl rfl (rd_loads agg_api_Type (ev_t rfl) rfl (fun _ => B5.row)) ?_
        refine sr_rdg rfl rfl rfl (rd_loads agg_api_Type (ev_t rfl) rfl (fun _ => B8.row)) ?_
        refine sr_pug rfl rfl rfl (fun _ => rd_steq fl_api_Type (ev_u rfl id) (ev_u rfl id) rfl) ?_
        refine sr_pu rfl (fun _ => rd_pick_and (ev_t rfl) (ev_u rfl id)) ?_
        refine sr_sub [(6, _, _), (7, _, _), (9, _, _), (40, _, _)] (sub_cons rfl (sub_cons rfl (sub_cons rfl (sub_cons rfl (sub_nil _))))) ?_
        refine sr_nil (hK17 _ _ ?_)
        refine sc_cond (ev_t rfl) (fun h11 => ?_) (fun h11 => ?_)
        · replace h11 : (tyEqB a tInt && tyEqB b tInt) = true := h11
          refine sc_seq fun K18 hK18 => ?_
          refine sc_text [0, 2, 3] ?_
          refine sr_rd rfl (rd_loads agg_api_Type (ev_t rfl) rfl (fun _ => B9.row)) ?_
          refine sr_store_all rfl sz_api_Type (ev_t rfl) (ev_t rfl) rfl rfl B6 rfl rfl ?_
          intro wS5 hgS5 hzS5
          clear B6
          intro B6
          replace B4 := B4.keep hgS5 (by intro h; injection h with h; omega)
          replace B5 := B5.keep hgS5 (by intro h; injection h with h; omega)
          replace B8 := B8.keep hgS5 (by intro h; injection h with h; omega)
          replace B9 := B9.keep hgS5 (by intro h; injection h with h; omega)
          have g := g_only g hgS5 (by intro k hk; injection hk with hk; omega)
          refine sr_pu rfl (fun _ => rd_assign ev_c) ?_
          refine sr_sub [(6, _, _), (7, _, _)] (sub_cons rfl (sub_cons rfl (sub_nil _))) ?_
          refine sr_nil (hK18 _ _ ?_)
          refine sc_ret (t_retv (rs := [.cell 6 23, .tmp 7]) (vs := [_, _]) rfl rfl (evr_c rfl agg_api_Type rfl (by first | exact B4.row | exact B5.row | exact B6.row | exact B8.row | exact B9.row) (evr_t rfl (evr_nil))) rfl ?_)
          refine ⟨?_, g⟩
          unfold binT; simp only [anyS, opAr, opLt, opEq, opLo, h5, h10, h11, cond_true, cond_false]; rfl
        · replace h11 : (tyEqB a tInt && tyEqB b tInt) = false := h11
          refine sc_skip (hK3 _ _ ?_)
          refine sc_sub [(6, _, _), (7, _, _)] (sub_cons rfl (sub_cons rfl (sub_nil _))) ?_
          refine sc_seq fun K19 hK19 => ?_
          refine sc_text [3, 2, 3] ?_
          refine sr_pu rfl (fun _ => rd_build [_, _] ze_api_Type rfl pl_api_Type (parts_nil) rfl) ?_
          refine sr_store_all rfl sz_api_Type (ev_t rfl) (ev_t rfl) rfl rfl B6 rfl rfl ?_
          intro wS6 hgS6 hzS6
          clear B6
          intro B6
          replace B4 := B4.keep hgS6 (by intro h; injection h with h; omega)
          replace B5 := B5.keep hgS6 (by intro h; injection h with h; omega)
          replace B8 := B8.keep hgS6 (by intro h; injection h with h; omega)
          replace B9 := B9.keep hgS6 (by intro h; injection h with h; omega)
          have g := g_only g hgS6 (by intro k hk; injection hk with hk; omega)
          refine sr_pu rfl (fun _ => rd_assign ev_c) ?_
          refine sr_nil (hK19 _ _ ?_)
          refine sc_ret (t_retv (rs := [.cell 6 23, .tmp 7]) (vs := [_, _]) rfl rfl (evr_c rfl agg_api_Type rfl (by first | exact B4.row | exact B5.row | exact B6.row | exact B8.row | exact B9.row) (evr_t rfl (evr_nil))) rfl ?_)
          refine ⟨?_, g⟩
          unfold binT; simp only [anyS, opAr, opLt, opEq, opLo, h5, h10, h11, cond_true, cond_false]; rfl
      · (try simp only [bsimp] at h10)
        refine sc_seq fun K20 hK20 => ?_
        refine sc_seq fun K21 hK21 => ?_
        refine sc_text [3, 3] ?_
        refine sr_pu rfl (fun _ => rd_seq (ev_t rfl) ev_c) ?_
        refine sr_pu rfl (fun _ => rd_assign (ev_t rfl)) ?_
        refine sr_sub [(4, _, _), (5, _, _), (6, _, _), (7, _, _), (9, _, _), (12, _, _), (42, _, _)] (sub_cons rfl (sub_cons rfl (sub_cons rfl (sub_cons rfl (sub_cons rfl (sub_cons rfl (sub_cons rfl (sub_nil _)))))))) ?_
        refine sr_nil (hK21 _ _ ?_)
        refine' sc_or [(4, _, _), (5, _, _), (6, _, _), (7, _, _), (9, _, _), (12, _, _)] (sub_cons rfl (sub_cons rfl (sub_cons rfl (sub_cons rfl (sub_cons rfl (sub_cons rfl (sub_cons rfl (sub_nil _)))))))) rfl (fun hb12 => ?y12) (hK20 _ _ ?n12)
        case y12 =>
         refine sc_text [3, 3] ?_
         refine sr_pu rfl (fun _ => rd_seq (ev_t rfl) ev_c) ?_
         refine sr_pu rfl (fun _ => rd_assign (ev_t rfl)) ?_
         refine sr_sub [(42, _, _), (4, _, _), (5, _, _), (6, _, _), (7, _, _), (9, _, _), (12, _, _)] (sub_cons rfl (sub_cons rfl (sub_cons rfl (sub_cons rfl (sub_cons rfl (sub_cons rfl (sub_cons rfl (sub_nil _)))))))) ?_
         exact sr_nil (fun a ha => ⟨ha, rfl⟩)
        case n12 =>
         refine sc_cond (ev_t rfl) (fun h13 => ?_) (fun h13 => ?_)
         · (try simp only [bsimp] at h13)
           refine sc_seq fun K22 hK22 => ?_
           refine sc_text [0, 0, 1] ?_
           refine sr_rd rfl (rd_loads agg_api_Type (ev_t rfl) rfl (fun _ => B4.row)) ?_
           refine sr_rd rfl (rd_loads agg_api_Type (ev_t rfl) rfl (fun _ => B5.row)) ?_
           refine sr_pure rfl (rc_call go_r05_Comparable ev_f (args_cons (ev_t rfl) (args_cons (ev_t rfl) (args_nil))) rfl) (rcomp_ok _ _ _) (fun w47 g47 => ?_)
           have g := g.trans (g47)
           replace B4 := B4.grow (g47)
           replace B5 := B5.grow (g47)
           replace B6 := B6.grow (g47)
           replace B8 := B8.grow (g47)
           replace B9 := B9.grow (g47)
           refine sr_sub [(6, _, _), (7, _, _), (9, _, _), (47, _, _)] (sub_cons rfl (sub_cons rfl (sub_cons rfl (sub_cons rfl (sub_nil _))))) ?_
           refine sr_nil (hK22 _ _ ?_)
           refine sc_cond (ev_t rfl) (fun h14 => ?_) (fun h14 => ?_)
           · (try simp only [bsimp] at h14)
             refine sc_seq fun K23 hK23 => ?_
             refine sc_text [0, 2, 3] ?_
             refine sr_rd rfl (rd_loads agg_api_Type (ev_t rfl) rfl (fun _ => B9.row)) ?_
             refine sr_store_all rfl sz_api_Type (ev_t rfl) (ev_t rfl) rfl rfl B6 rfl rfl ?_
             intro wS7 hgS7 hzS7
             clear B6
             intro B6
             replace B4 := B4.keep hgS7 (by intro h; injection h with h; omega)
             replace B5 := B5.keep hgS7 (by intro h; injection h with h; omega)
             replace B8 := B8.keep hgS7 (by intro h; injection h with h; omega)
             replace B9 := B9.keep hgS7 (by intro h; injection h with h; omega)
             have g := g_only g hgS7 (by intro k hk; injection hk with hk; omega)
             refine sr_pu rfl (fun _ => rd_assign ev_c) ?_
             refine sr_sub [(6, _, _), (7, _, _)] (sub_cons rfl (sub_cons rfl (sub_nil _))) ?_
             refine sr_nil (hK23 _ _ ?_)
             refine sc_ret (t_retv (rs := [.cell 6 23, .tmp 7]) (vs := [_, _]) rfl rfl (evr_c rfl agg_api_Type rfl (by first | exact B4.row | exact B5.row | exact B6.row | exact B8.row | exact B9.row) (evr_t rfl (evr_nil))) rfl ?_)
             refine ⟨?_, g⟩
             unfold binT; simp only [anyS, opAr, opLt, opEq, opLo, h5, h10, h13, h14, cond_true, cond_false]; rfl
           · (try simp only [bsimp] at h14)
             refine sc_skip (hK3 _ _ ?_)
             refine sc_sub [(6, _, _), (7, _, _)] (sub_cons rfl (sub_cons rfl (sub_nil _))) ?_
             refine sc_seq fun K24 hK24 => ?_
             refine sc_text [3, 2, 3] ?_
             refine sr_pu rfl (fun _ => rd_build [_, _] ze_api_Type rfl pl_api_Type (parts_nil) rfl) ?_
             refine sr_store_all rfl sz_api_Type (ev_t rfl) (ev_t rfl) rfl rfl B6 rfl rfl ?_
             intro wS8 hgS8 hzS8
             clear B6
             intro B6
             replace B4 := B4.keep hgS8 (by intro h; injection h with h; omega)
             replace B5 := B5.keep hgS8 (by intro h; injection h with h; omega)
             replace B8 := B8.keep hgS8 (by intro h; injection h with h; omega)
             replace B9 := B9.keep hgS8 (by intro h; injection h with h; omega)
             have g := g_only g hgS8 (by intro k hk; injection hk with hk; omega)
             refine sr_pu rfl (fun _ => rd_assign ev_c) ?_
             refine sr_nil (hK24 _ _ ?_)
             refine sc_ret (t_retv (rs := [.cell 6 23, .tmp 7]) (vs := [_, _]) rfl rfl (evr_c rfl agg_api_Type rfl (by first | exact B4.row | exact B5.row | exact B6.row | exact B8.row | exact B9.row) (evr_t rfl (evr_nil))) rfl ?_)
             refine ⟨?_, g⟩
             unfold binT; simp only [anyS, opAr, opLt, opEq, opLo, h5, h10, h13, h14, cond_true, cond_false]; rfl
         · (try simp only [bsimp] at h13)
           refine sc_seq fun K25 hK25 => ?_
           refine sc_seq fun K26 hK26 => ?_
           refine sc_text [3, 3] ?_
           refine sr_pu rfl (fun _ => rd_seq (ev_t rfl) ev_c) ?_
           refine sr_pu rfl (fun _ => rd_assign (ev_t rfl)) ?_
           refine sr_sub [(4, _, _), (5, _, _), (6, _, _), (7, _, _), (9, _, _), (12, _, _), (49, _, _)] (sub_cons rfl (sub_cons rfl (sub_cons rfl (sub_cons rfl (sub_cons rfl (sub_cons rfl (sub_cons rfl (sub_nil _)))))))) ?_
           refine sr_nil (hK26 _ _ ?_)
           refine' sc_or [(4, _, _), (5, _, _), (6, _, _), (7, _, _), (9, _, _)] (sub_cons rfl (sub_cons rfl (sub_cons rfl (sub_cons rfl (sub_cons rfl (sub_cons rfl (sub_nil _))))))) rfl (fun hb15 => ?y15) (hK25 _ _ ?n15)
           case y15 =>
            refine sc_text [3, 3] ?_
            refine sr_pu rfl (fun _ => rd_seq (ev_t rfl) ev_c) ?_
            refine sr_pu rfl (fun _ => rd_assign (ev_t rfl)) ?_
            refine sr_sub [(49, _, _), (4, _, _), (5, _, _), (6, _, _), (7, _, _), (9, _, _)] (sub_cons rfl (sub_cons rfl (sub_cons rfl (sub_cons rfl (sub_cons rfl (sub_cons rfl (sub_nil _))))))) ?_
            exact sr_nil (fun a ha => ⟨ha, rfl⟩)
           case n15 =>
            refine sc_cond (ev_t rfl) (fun h16 => ?_) (fun h16 => ?_)
            · (try simp only [bsimp] at h16)
              refine sc_seq fun K27 hK27 => ?_
              refine sc_text [0, 0, 3, 3, 0, 0, 3, 3] ?_
              refine sr_rd rfl (rd_loads agg_api_Type (ev_t rfl) rfl (fun _ => B4.row)) ?_
              refine sr_rd rfl (rd_loads agg_api_Type (ev_t rfl) rfl (fun _ => B9.row)) ?_
              refine sr_pu rfl (fun _ => rd_steq fl_api_Type (ev_t rfl) (ev_t rfl) rfl) ?_
              refine sr_pu rfl (fun _ => rd_move (ev_t rfl)) ?_
              refine sr_rdg rfl rfl rfl (rd_loads agg_api_Type (ev_t rfl) rfl (fun _ => B5.row)) ?_
              refine sr_rdg rfl rfl rfl (rd_loads agg_api_Type (ev_t rfl) rfl (fun _ => B9.row)) ?_
              refine sr_pug rfl rfl rfl (fun _ => rd_steq fl_api_Type (ev_u rfl id) (ev_u rfl id) rfl) ?_
              refine sr_pu rfl (fun _ => rd_pick_and (ev_t rfl) (ev_u rfl id)) ?_
              refine sr_sub [(6, _, _), (7, _, _), (9, _, _), (59, _, _)] (sub_cons rfl (sub_cons rfl (sub_cons rfl (sub_cons rfl (sub_nil _))))) ?_
              refine sr_nil (hK27 _ _ ?_)
              refine sc_cond (ev_t rfl) (fun h17 => ?_) (fun h17 => ?_)
              · replace h17 : (tyEqB a tBool && tyEqB b tBool) = true := h17
                refine sc_seq fun K28 hK28 => ?_
                refine sc_text [0, 2, 3] ?_
                refine sr_rd rfl (rd_loads agg_api_Type (ev_t rfl) rfl (fun _ => B9.row)) ?_
                refine sr_store_all rfl sz_api_Type (ev_t rfl) (ev_t rfl) rfl rfl B6 rfl rfl ?_
                intro wS9 hgS9 hzS9
                clear B6
                intro B6
                replace B4 := B4.keep hgS9 (by intro h; injection h with h; omega)
                replace B5 := B5.keep hgS9 (by intro h; injection h with h; omega)
                replace B8 := B8.keep hgS9 (by intro h; injection h with h; omega)
                replace B9 := B9.keep hgS9 (by intro h; injection h with h; omega)
                have g := g_only g hgS9 (by intro k hk; injection hk with hk; omega)
                refine sr_pu rfl (fun _ => rd_assign ev_c) ?_
                refine sr_sub [(6, _, _), (7, _, _)] (sub_cons rfl (sub_cons rfl (sub_nil _))) ?_
                refine sr_nil (hK28 _ _ ?_)
                refine sc_ret (t_retv (rs := [.cell 6 23, .tmp 7]) (vs := [_, _]) rfl rfl (evr_c rfl agg_api_Type rfl (by first | exact B4.row | exact B5.row | exact B6.row | exact B8.row | exact B9.row) (evr_t rfl (evr_nil))) rfl ?_)
                refine ⟨?_, g⟩
                unfold binT; simp only [anyS, opAr, opLt, opEq, opLo, h5, h10, h13, h16, h17, cond_true, cond_false]; rfl
              · replace h17 : (tyEqB a tBool && tyEqB b tBool) = false := h17
                refine sc_skip (hK3 _ _ ?_)
                refine sc_sub [(6, _, _), (7, _, _)] (sub_cons rfl (sub_cons rfl (sub_nil _))) ?_
                refine sc_seq fun K29 hK29 => ?_
                refine sc_text [3, 2, 3] ?_
                refine sr_pu rfl (fun _ => rd_build [_, _] ze_api_Type rfl pl_api_Type (parts_nil) rfl) ?_
                refine sr_store_all rfl sz_api_Type (ev_t rfl) (ev_t rfl) rfl rfl B6 rfl rfl ?_
                intro wS10 hgS10 hzS10
                clear B6
                intro B6
                replace B4 := B4.keep hgS10 (by intro h; injection h with h; omega)
                replace B5 := B5.keep hgS10 (by intro h; injection h with h; omega)
                replace B8 := B8.keep hgS10 (by intro h; injection h with h; omega)
                replace B9 := B9.keep hgS10 (by intro h; injection h with h; omega)
                have g := g_only g hgS10 (by intro k hk; injection hk with hk; omega)
                refine sr_pu rfl (fun _ => rd_assign ev_c) ?_
                refine sr_nil (hK29 _ _ ?_)
                refine sc_ret (t_retv (rs := [.cell 6 23, .tmp 7]) (vs := [_, _]) rfl rfl (evr_c rfl agg_api_Type rfl (by first | exact B4.row | exact B5.row | exact B6.row | exact B8.row | exact B9.row) (evr_t rfl (evr_nil))) rfl ?_)
                refine ⟨?_, g⟩
                unfold binT; simp only [anyS, opAr, opLt, opEq, opLo, h5, h10, h13, h16, h17, cond_true, cond_false]; rfl
            · (try simp only [bsimp] at h16)
              refine sc_skip (hK3 _ _ ?_)
              refine sc_sub [(6, _, _), (7, _, _)] (sub_cons rfl (sub_cons rfl (sub_nil _))) ?_
              refine sc_seq fun K30 hK30 => ?_
              refine sc_text [3, 2, 3] ?_
              refine sr_pu rfl (fun _ => rd_build [_, _] ze_api_Type rfl pl_api_Type (parts_nil) rfl) ?_
              refine sr_store_all rfl sz_api_Type (ev_t rfl) (ev_t rfl) rfl rfl B6 rfl rfl ?_
              intro wS11 hgS11 hzS11
              clear B6
              intro B6
              replace B4 := B4.keep hgS11 (by intro h; injection h with h; omega)
              replace B5 := B5.keep hgS11 (by intro h; injection h with h; omega)
              replace B8 := B8.keep hgS11 (by intro h; injection h with h; omega)
              replace B9 := B9.keep hgS11 (by intro h; injection h with h; omega)
              have g := g_only g hgS11 (by intro k hk; injection hk with hk; omega)
              refine sr_pu rfl (fun _ => rd_assign ev_c) ?_
              refine sr_nil (hK30 _ _ ?_)
              refine sc_ret (t_retv (rs := [.cell 6 23, .tmp 7]) (vs := [_, _]) rfl rfl (evr_c rfl agg_api_Type rfl (by first | exact B4.row | exact B5.row | exact B6.row | exact B8.row | exact B9.row) (evr_t rfl (evr_nil))) rfl ?_)
              refine ⟨?_, g⟩
              unfold binT; simp only [anyS, opAr, opLt, opEq, opLo, h5, h10, h13, h16, cond_true, cond_false]; rfl
end Go.Rk
