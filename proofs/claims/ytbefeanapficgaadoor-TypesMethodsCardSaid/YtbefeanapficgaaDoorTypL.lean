/- The laws about types without trees. Conditions: what start-up laid. -/
import Derived.Test.YtbefeanapficgaaDoorTypE
namespace Go.Rk
open Go Go.RowKit
def binOps : List (List UInt8) := [[124, 124], [38, 38], [61, 61], [33, 61], [60], [60, 61], [62], [62, 61], [43], [45], [42], [47], [37]]
theorem binop_ok (s : List UInt8) (w : World) : Ret PP fn_r03_BinaryOp #[Str s] w fun v w' => v = .bool (anyS binOps s) ∧ G w w' := by
  have g := G.refl w
  refine ret_of_sc (m := 18) func_r03_BinaryOp rfl rfl [(0, True, _)] (sub_cons rfl (sub_nil _)) ?_
  refine sc_seq fun K1 hK1 => ?_
  refine sc_text [3] ?_
  refine sr_pu rfl (fun _ => rd_assign ev_c) ?_
  refine sr_nil (hK1 _ _ ?_)
  refine sc_seq fun K2 hK2 => ?_
  refine sc_seq fun K3 hK3 => ?_
  refine sc_text [3] ?_
  refine sr_pu rfl (fun _ => rd_move (ev_t rfl)) ?_
  refine sr_sub [(2, _, _), (3, _, _)] (sub_cons rfl (sub_cons rfl (sub_nil _))) ?_
  refine sr_nil (hK3 _ _ ?_)
  refine sc_block ?_
  refine sc_seq fun K4 hK4 => ?_
  refine sc_seq fun K5 hK5 => ?_
  refine sc_text [3, 3] ?_
  refine sr_pu rfl (fun _ => rd_seq (ev_t rfl) ev_c) ?_
  refine sr_pu rfl (fun _ => rd_assign (ev_t rfl)) ?_
  refine sr_sub [(2, _, _), (3, _, _), (4, _, _)] (sub_cons rfl (sub_cons rfl (sub_cons rfl (sub_nil _)))) ?_
  refine sr_nil (hK5 _ _ ?_)
  refine' sc_or [(2, _, _)] (sub_cons rfl (sub_cons rfl (sub_nil _))) rfl (fun hb1 => ?y1) (hK4 _ _ ?n1)
  case y1 =>
   refine sc_seq fun K6 hK6 => ?_
   refine sc_text [3, 3] ?_
   refine sr_pu rfl (fun _ => rd_seq (ev_t rfl) ev_c) ?_
   refine sr_pu rfl (fun _ => rd_assign (ev_t rfl)) ?_
   refine sr_sub [(2, _, _), (3, _, _), (4, _, _)] (sub_cons rfl (sub_cons rfl (sub_cons rfl (sub_nil _)))) ?_
   refine sr_nil (hK6 _ _ ?_)
   refine' sc_or [(2, _, _)] (sub_cons rfl (sub_cons rfl (sub_nil _))) rfl (fun hb2 => ?y2) (fun a ha => ⟨ha, rfl⟩)
   case y2 =>
    refine sc_seq fun K7 hK7 => ?_
    refine sc_text [3, 3] ?_
    refine sr_pu rfl (fun _ => rd_seq (ev_t rfl) ev_c) ?_
    refine sr_pu rfl (fun _ => rd_assign (ev_t rfl)) ?_
    refine sr_sub [(2, _, _), (3, _, _), (4, _, _)] (sub_cons rfl (sub_cons rfl (sub_cons rfl (sub_nil _)))) ?_
    refine sr_nil (hK7 _ _ ?_)
    refine' sc_or [(2, _, _)] (sub_cons rfl (sub_cons rfl (sub_nil _))) rfl (fun hb3 => ?y3) (fun a ha => ⟨ha, rfl⟩)
    case y3 =>
     refine sc_seq fun K8 hK8 => ?_
     refine sc_text [3, 3] ?_
     refine sr_pu rfl (fun _ => rd_seq (ev_t rfl) ev_c) ?_
     refine sr_pu rfl (fun _ => rd_assign (ev_t rfl)) ?_
     refine sr_sub [(2, _, _), (3, _, _), (4, _, _)] (sub_cons rfl (sub_cons rfl (sub_cons rfl (sub_nil _)))) ?_
     refine sr_nil (hK8 _ _ ?_)
     refine' sc_or [(2, _, _)] (sub_cons rfl (sub_cons rfl (sub_nil _))) rfl (fun hb4 => ?y4) (fun a ha => ⟨ha, rfl⟩)
     case y4 =>
      refine sc_seq fun K9 hK9 => ?_
      refine sc_text [3, 3] ?_
      refine sr_pu rfl (fun _ => rd_seq (ev_t rfl) ev_c) ?_
      refine sr_pu rfl (fun _ => rd_assign (ev_t rfl)) ?_
      refine sr_sub [(2, _, _), (3, _, _), (4, _, _)] (sub_cons rfl (sub_cons rfl (sub_cons rfl (sub_nil _)))) ?_
      refine sr_nil (hK9 _ _ ?_)
      refine' sc_or [(2, _, _)] (sub_cons rfl (sub_cons rfl (sub_nil _))) rfl (fun hb5 => ?y5) (fun a ha => ⟨ha, rfl⟩)
      case y5 =>
       refine sc_seq fun K10 hK10 => ?_
       refine sc_text [3, 3] ?_
       refine sr_pu rfl (fun _ => rd_seq (ev_t rfl) ev_c) ?_
       refine sr_pu rfl (fun _ => rd_assign (ev_t rfl)) ?_
       refine sr_sub [(2, _, _), (3, _, _), (4, _, _)] (sub_cons rfl (sub_cons rfl (sub_cons rfl (sub_nil _)))) ?_
       refine sr_nil (hK10 _ _ ?_)
       refine' sc_or [(2, _, _)] (sub_cons rfl (sub_cons rfl (sub_nil _))) rfl (fun hb6 => ?y6) (fun a ha => ⟨ha, rfl⟩)
       case y6 =>
        refine sc_seq fun K11 hK11 => ?_
        refine sc_text [3, 3] ?_
        refine sr_pu rfl (fun _ => rd_seq (ev_t rfl) ev_c) ?_
        refine sr_pu rfl (fun _ => rd_assign (ev_t rfl)) ?_
        refine sr_sub [(2, _, _), (3, _, _), (4, _, _)] (sub_cons rfl (sub_cons rfl (sub_cons rfl (sub_nil _)))) ?_
        refine sr_nil (hK11 _ _ ?_)
        refine' sc_or [(2, _, _)] (sub_cons rfl (sub_cons rfl (sub_nil _))) rfl (fun hb7 => ?y7) (fun a ha => ⟨ha, rfl⟩)
        case y7 =>
         refine sc_seq fun K12 hK12 => ?_
         refine sc_text [3, 3] ?_
         refine sr_pu rfl (fun _ => rd_seq (ev_t rfl) ev_c) ?_
         refine sr_pu rfl (fun _ => rd_assign (ev_t rfl)) ?_
         refine sr_sub [(2, _, _), (3, _, _), (4, _, _)] (sub_cons rfl (sub_cons rfl (sub_cons rfl (sub_nil _)))) ?_
         refine sr_nil (hK12 _ _ ?_)
         refine' sc_or [(2, _, _)] (sub_cons rfl (sub_cons rfl (sub_nil _))) rfl (fun hb8 => ?y8) (fun a ha => ⟨ha, rfl⟩)
         case y8 =>
          refine sc_seq fun K13 hK13 => ?_
          refine sc_text [3, 3] ?_
          refine sr_pu rfl (fun _ => rd_seq (ev_t rfl) ev_c) ?_
          refine sr_pu rfl (fun _ => rd_assign (ev_t rfl)) ?_
          refine sr_sub [(2, _, _), (3, _, _), (4, _, _)] (sub_cons rfl (sub_cons rfl (sub_cons rfl (sub_nil _)))) ?_
          refine sr_nil (hK13 _ _ ?_)
          refine' sc_or [(2, _, _)] (sub_cons rfl (sub_cons rfl (sub_nil _))) rfl (fun hb9 => ?y9) (fun a ha => ⟨ha, rfl⟩)
          case y9 =>
           refine sc_seq fun K14 hK14 => ?_
           refine sc_text [3, 3] ?_
           refine sr_pu rfl (fun _ => rd_seq (ev_t rfl) ev_c) ?_
           refine sr_pu rfl (fun _ => rd_assign (ev_t rfl)) ?_
           refine sr_sub [(2, _, _), (3, _, _), (4, _, _)] (sub_cons rfl (sub_cons rfl (sub_cons rfl (sub_nil _)))) ?_
           refine sr_nil (hK14 _ _ ?_)
           refine' sc_or [(2, _, _)] (sub_cons rfl (sub_cons rfl (sub_nil _))) rfl (fun hb10 => ?y10) (fun a ha => ⟨ha, rfl⟩)
           case y10 =>
            refine sc_seq fun K15 hK15 => ?_
            refine sc_text [3, 3] ?_
            refine sr_pu rfl (fun _ => rd_seq (ev_t rfl) ev_c) ?_
            refine sr_pu rfl (fun _ => rd_assign (ev_t rfl)) ?_
            refine sr_sub [(2, _, _), (3, _, _), (4, _, _)] (sub_cons rfl (sub_cons rfl (sub_cons rfl (sub_nil _)))) ?_
            refine sr_nil (hK15 _ _ ?_)
            refine' sc_or [(2, _, _)] (sub_cons rfl (sub_cons rfl (sub_nil _))) rfl (fun hb11 => ?y11) (fun a ha => ⟨ha, rfl⟩)
            case y11 =>
             refine sc_seq fun K16 hK16 => ?_
             refine sc_text [3, 3] ?_
             refine sr_pu rfl (fun _ => rd_seq (ev_t rfl) ev_c) ?_
             refine sr_pu rfl (fun _ => rd_assign (ev_t rfl)) ?_
             refine sr_sub [(2, _, _), (3, _, _), (4, _, _)] (sub_cons rfl (sub_cons rfl (sub_cons rfl (sub_nil _)))) ?_
             refine sr_nil (hK16 _ _ ?_)
             refine' sc_or [(2, _, _)] (sub_cons rfl (sub_cons rfl (sub_nil _))) rfl (fun hb12 => ?y12) (fun a ha => ⟨ha, rfl⟩)
             case y12 =>
              refine sc_text [3, 3] ?_
              refine sr_pu rfl (fun _ => rd_seq (ev_t rfl) ev_c) ?_
              refine sr_pu rfl (fun _ => rd_assign (ev_t rfl)) ?_
              refine sr_sub [(4, _, _), (2, _, _)] (sub_cons rfl (sub_cons rfl (sub_nil _))) ?_
              exact sr_nil (fun a ha => ⟨ha, rfl⟩)
  case n1 =>
   refine sc_cond (ev_t rfl) (fun h13 => ?_) (fun h13 => ?_)
   · (try simp only [bsimp] at h13)
     refine sc_seq fun K17 hK17 => ?_
     refine sc_text [3] ?_
     refine sr_pu rfl (fun _ => rd_assign ev_c) ?_
     refine sr_sub [(2, _, _)] (sub_cons rfl (sub_nil _)) ?_
     refine sr_nil (hK17 _ _ ?_)
     refine sc_ret (t_ret1 rfl rfl ?_)
     refine ⟨congrArg Value.bool ?_, g⟩
     simp only [anyS, binOps]; exact (h13).symm
   · (try simp only [bsimp] at h13)
     refine sc_skip (hK2 _ _ ?_)
     refine sc_sub [(2, _, _)] (sub_cons rfl (sub_nil _)) ?_
     refine sc_seq fun K18 hK18 => ?_
     refine sc_text [3] ?_
     refine sr_pu rfl (fun _ => rd_assign ev_c) ?_
     refine sr_nil (hK18 _ _ ?_)
     refine sc_ret (t_ret1 rfl rfl ?_)
     refine ⟨congrArg Value.bool ?_, g⟩
     simp only [anyS, binOps]; exact (h13).symm
theorem awake5_ok (w : World) (hL : Laid w) (hTx : LaidT w) (hb3 : 4 ≤ w.heap.size) : Ret PP fn_l05_awake #[] w fun v w' => v = .bool true ∧ G w w' := by
  have g := G.refl w
  refine ret_of_sc (m := 75) func_l05_awake rfl rfl [] (sub_nil _) ?_
  refine sc_seq fun K1 hK1 => ?_
  refine sc_text [3] ?_
  refine sr_pu rfl (fun _ => rd_assign ev_c) ?_
  refine sr_nil (hK1 _ _ ?_)
  refine sc_seq fun K2 hK2 => ?_
  refine sc_text [3, 1, 2] ?_
  refine sr_pu rfl (fun _ => rd_build [_, _] ze_api_Type rfl pl_api_Type (parts_cons ev_c (parts_cons ev_c (parts_nil))) rfl) ?_
  refine sr_alloc rfl ze_api_Type rfl ?_
  intro b1 w1 N1
  have l1 := N1.ge g
  have g := g.trans (N1.g)
  have B1 := N1.blk
  refine sr_store_all rfl sz_api_Type (ev_t rfl) (ev_t rfl) rfl rfl B1 rfl rfl ?_
  intro wS1 hgS1 hzS1
  clear B1
  intro B1
  have g := g_only g hgS1 (by intro k hk; injection hk with hk; omega)
  refine sr_sub [(0, _, _), (1, _, _)] (sub_cons rfl (sub_cons rfl (sub_nil _))) ?_
  refine sr_nil (hK2 _ _ ?_)
  refine sc_seq fun K3 hK3 => ?_
  refine sc_text [3, 1, 2] ?_
  refine sr_pu rfl (fun _ => rd_build [_, _] ze_api_Type rfl pl_api_Type (parts_cons ev_c (parts_nil)) rfl) ?_
  refine sr_alloc rfl ze_api_Type rfl ?_
  intro b2 w2 N2
  have x2_1 := N2.ne B1
  have l2 := N2.ge g
  have g := g.trans (N2.g)
  replace B1 := B1.grow (N2.g)
  have B2 := N2.blk
  refine sr_store_all rfl sz_api_Type (ev_t rfl) (ev_t rfl) rfl rfl B2 rfl rfl ?_
  intro wS2 hgS2 hzS2
  clear B2
  intro B2
  replace B1 := B1.keep hgS2 (by intro h; injection h with h; omega)
  have g := g_only g hgS2 (by intro k hk; injection hk with hk; omega)
  refine sr_sub [(0, _, _), (1, _, _), (2, _, _)] (sub_cons rfl (sub_cons rfl (sub_cons rfl (sub_nil _)))) ?_
  refine sr_nil (hK3 _ _ ?_)
  refine sc_seq fun K4 hK4 => ?_
  refine sc_text [0, 0, 1, 3, 3, 3, 1, 2, 3] ?_
  refine sr_rd rfl (rd_loads agg_api_Type (ev_t rfl) rfl (fun _ => B2.row)) ?_
  refine sr_rd rfl (rd_loads agg_api_Type (ev_t rfl) rfl (fun _ => B2.row)) ?_
  refine sr_pure rfl (rc_call go_types_Binary ev_f (args_cons ev_c (args_cons (ev_t rfl) (args_cons (ev_t rfl) (args_nil)))) rfl) (tbin_ok [60] tInt tInt _ (hL.grow g) (by have := g.size; omega)) (fun w14 g14 => ?_)
  have g := g.trans (g14)
  replace B1 := B1.grow (g14)
  replace B2 := B2.grow (g14)
  refine sr_pu rfl (fun _ => rd_move (ev_t rfl)) ?_
  refine sr_pu rfl (fun _ => rd_extract (ev_t rfl) rfl) ?_
  refine sr_pu rfl (fun _ => rd_extract (ev_t rfl) rfl) ?_
  refine sr_alloc rfl ze_api_Type rfl ?_
  intro b3 w3 N3
  have x3_1 := N3.ne B1
  have x3_2 := N3.ne B2
  have l3 := N3.ge g
  have g := g.trans (N3.g)
  replace B1 := B1.grow (N3.g)
  replace B2 := B2.grow (N3.g)
  have B3 := N3.blk
  refine sr_store_all rfl sz_api_Type (ev_t rfl) (ev_t rfl) rfl rfl B3 rfl rfl ?_
  intro wS3 hgS3 hzS3
  clear B3
  intro B3
  replace B1 := B1.keep hgS3 (by intro h; injection h with h; omega)
  replace B2 := B2.keep hgS3 (by intro h; injection h with h; omega)
  have g := g_only g hgS3 (by intro k hk; injection hk with hk; omega)
  refine sr_pu rfl (fun _ => rd_assign (ev_t rfl)) ?_
  refine sr_sub [(0, _, _), (1, _, _), (2, _, _), (3, _, _), (4, _, _)] (sub_cons rfl (sub_cons rfl (sub_cons rfl (sub_cons rfl (sub_cons rfl (sub_nil _)))))) ?_
  refine sr_nil (hK4 _ _ ?_)
  refine sc_seq fun K5 hK5 => ?_
  refine sc_text [3, 1, 3, 3, 3, 3, 1, 3, 2, 3] ?_
  refine sr_pu rfl (fun _ => rd_build [_, _] ze_api_Type rfl pl_api_Type (parts_cons ev_c (parts_nil)) rfl) ?_
  refine sr_call rfl (rc_call go_types_Method ev_f (args_cons (ev_t rfl) (args_cons ev_c (args_nil))) rfl) (tmth_ok ⟨12, []⟩ [65, 100, 100] _ (hL.grow g) (by have := g.size; omega)) ?_
  rintro v19 w19 ⟨⟨l, rfl, hR⟩, g19⟩
  have e : mthF ⟨12, []⟩ [65, 100, 100] = ([tInt], tInt, true) := by kernel_rfl
  rw [e] at hR ⊢
  obtain ⟨p, c, rfl, hc, hR⟩ := hR
  obtain ⟨b, o, rfl, hRr⟩ := hR (by decide)
  refine ⟨fun _ => g19, ?_⟩
  have g := g.trans g19
  replace B1 := B1.grow (g19)
  replace B2 := B2.grow (g19)
  replace B3 := B3.grow (g19)
  have gm := G.refl w19
  refine sr_pu rfl (fun _ => rd_move (ev_t rfl)) ?_
  refine sr_pu rfl (fun _ => rd_extract (ev_t rfl) rfl) ?_
  refine sr_pu rfl (fun _ => rd_extract (ev_t rfl) rfl) ?_
  refine sr_pu rfl (fun _ => rd_extract (ev_t rfl) rfl) ?_
  refine sr_alloc rfl ze_api_Type rfl ?_
  intro b6 w6 N6
  have x6_1 := N6.ne B1
  have x6_2 := N6.ne B2
  have x6_3 := N6.ne B3
  have l6 := N6.ge g
  try have l6_gm := N6.ge gm
  have g := g.trans (N6.g)
  try have gm := gm.trans (N6.g)
  replace B1 := B1.grow (N6.g)
  replace B2 := B2.grow (N6.g)
  replace B3 := B3.grow (N6.g)
  have B6 := N6.blk
  refine sr_pu rfl (fun _ => rd_assign (ev_t rfl)) ?_
  refine sr_store_all rfl sz_api_Type (ev_t rfl) (ev_t rfl) rfl rfl B6 rfl rfl ?_
  intro wS4 hgS4 hzS4
  clear B6
  intro B6
  replace B1 := B1.keep hgS4 (by intro h; injection h with h; omega)
  replace B2 := B2.keep hgS4 (by intro h; injection h with h; omega)
  replace B3 := B3.keep hgS4 (by intro h; injection h with h; omega)
  have g := g_only g hgS4 (by intro k hk; injection hk with hk; omega)
  first | replace gm := g_only gm hgS4 (by intro k hk; injection hk with hk; omega) | clear gm | skip
  refine sr_pu rfl (fun _ => rd_assign (ev_t rfl)) ?_
  refine sr_sub [(0, _, _), (1, _, _), (2, _, _), (3, _, _), (4, _, _), (5, _, _), (6, _, _), (7, _, _)] (sub_cons rfl (sub_cons rfl (sub_cons rfl (sub_cons rfl (sub_cons rfl (sub_cons rfl (sub_cons rfl (sub_cons rfl (sub_nil _))))))))) ?_
  refine sr_nil (hK5 _ _ ?_)
  refine sc_seq fun K6 hK6 => ?_
  refine sc_text [3, 1, 2] ?_
  refine sr_pu rfl (fun _ => rd_build [_, _] ze_api_Type rfl pl_api_Type (parts_cons ev_c (parts_nil)) rfl) ?_
  refine sr_alloc rfl ze_api_Type rfl ?_
  intro b8 w8 N8
  have x8_1 := N8.ne B1
  have x8_2 := N8.ne B2
  have x8_3 := N8.ne B3
  have x8_6 := N8.ne B6
  have l8 := N8.ge g
  try have l8_gm := N8.ge gm
  have g := g.trans (N8.g)
  try have gm := gm.trans (N8.g)
  replace B1 := B1.grow (N8.g)
  replace B2 := B2.grow (N8.g)
  replace B3 := B3.grow (N8.g)
  replace B6 := B6.grow (N8.g)
  have B8 := N8.blk
  refine sr_store_all rfl sz_api_Type (ev_t rfl) (ev_t rfl) rfl rfl B8 rfl rfl ?_
  intro wS5 hgS5 hzS5
  clear B8
  intro B8
  replace B1 := B1.keep hgS5 (by intro h; injection h with h; omega)
  replace B2 := B2.keep hgS5 (by intro h; injection h with h; omega)
  replace B3 := B3.keep hgS5 (by intro h; injection h with h; omega)
  replace B6 := B6.keep hgS5 (by intro h; injection h with h; omega)
  have g := g_only g hgS5 (by intro k hk; injection hk with hk; omega)
  first | replace gm := g_only gm hgS5 (by intro k hk; injection hk with hk; omega) | clear gm | skip
  refine sr_sub [(0, _, _), (1, _, _), (2, _, _), (3, _, _), (4, _, _), (5, _, _), (6, _, _), (7, _, _), (8, _, _)] (sub_cons rfl (sub_cons rfl (sub_cons rfl (sub_cons rfl (sub_cons rfl (sub_cons rfl (sub_cons rfl (sub_cons rfl (sub_cons rfl (sub_nil _)))))))))) ?_
  refine sr_nil (hK6 _ _ ?_)
  refine sc_seq fun K7 hK7 => ?_
  refine sc_draw [0, 1, 3, 3, 0, 0, 1, 3, 3, 0, 0, 1, 3, 3, 3, 0, 3, 3, 3, 3, 3, 3, 3, 3, 3, 3, 3, 3, 3, 3, 0, 0, 3, 3, 3, 0, 0, 3, 3, 3, 3, 3, 3, 0, 1, 3, 3, 3, 0, 1, 3, 3] [true, true, true, true, true, true, true, true, true, true, true, true, true, true, true, true, true, true, true, true, true, true, true, true, true, true, true, true, true, true, true, true, true, true, true, true, true, true, true, true, true, true, true, true, true, true, true, true, true, true, true, true] [0, 1, 3, 7, 15, 15, 63, 127, 255, 511, 511, 2047, 4095, 8191, 16383, 32767, 32767, 131071, 262143, 524287, 1048575, 2097151, 4194303, 8388607, 16777215, 33554431, 67108863, 134217727, 268435455, 536870911, 1073741823, 268435455, 4294967295, 8589934591, 17179869183, 34359738367, 34359738367, 137438953471, 274877906943, 549755813887, 1099511627775, 2199023255551, 4398046511103, 8796093022207, 17592186044415, 35184372088831, 70368744177663, 140737488355327, 281474976710655, 562949953421311, 1125899906842623, 2251799813685247] mix (by kernel_rfl) ?_
  have g := g.trans (G.drew _)
  try have gm := gm.trans (G.drew _)
  replace B1 := B1.grow (G.drew _)
  replace B2 := B2.grow (G.drew _)
  replace B3 := B3.grow (G.drew _)
  replace B6 := B6.grow (G.drew _)
  replace B8 := B8.grow (G.drew _)
  refine sr_rd rfl (rd_loads agg_api_Type (ev_t rfl) rfl (fun _ => B1.row)) ?_
  refine sr_pure rfl (rc_call go_types_Text ev_f (args_cons (ev_t rfl) (args_nil)) rfl) (ttext_ok ⟨4, [84]⟩ _ (hL.grow g) (by have := g.size; omega) (hTx.grow g)) (fun w25 g25 => ?_)
  have g := g.trans (g25)
  try have gm := gm.trans (g25)
  replace B1 := B1.grow (g25)
  replace B2 := B2.grow (g25)
  replace B3 := B3.grow (g25)
  replace B6 := B6.grow (g25)
  replace B8 := B8.grow (g25)
  refine sr_pu rfl (fun _ => rd_seq (ev_t rfl) ev_c) ?_
  refine sr_pu rfl (fun _ => rd_move (ev_t rfl)) ?_
  refine sr_rdg rfl rfl rfl (rd_loads agg_api_Type (ev_t rfl) rfl (fun _ => B1.row)) ?_
  refine sr_rdg rfl rfl rfl (rd_loads agg_api_Type (ev_t rfl) rfl (fun _ => B1.row)) ?_
  refine sr_pureg rfl rfl rfl (fun _ => (rc_call go_types_Comparable ev_f (args_cons (ev_u rfl id) (args_cons (ev_u rfl id) (args_nil))) rfl)) (fun hc => tcomp_ok ⟨4, [84]⟩ ⟨4, [84]⟩ _ (hL.grow g) (by have := g.size; omega)) (fun w30 g30 => ?_)
  have g := g.trans (g30)
  try have gm := gm.trans (g30)
  replace B1 := B1.grow (g30)
  replace B2 := B2.grow (g30)
  replace B3 := B3.grow (g30)
  replace B6 := B6.grow (g30)
  replace B8 := B8.grow (g30)
  refine sr_pu rfl (fun _ => rd_pick_and (ev_t rfl) (ev_u rfl id)) ?_
  refine sr_pu rfl (fun _ => rd_move (ev_t rfl)) ?_
  refine sr_rdg rfl rfl rfl (rd_loads agg_api_Type (ev_t rfl) rfl (fun _ => B8.row)) ?_
  refine sr_rdg rfl rfl rfl (rd_loads agg_api_Type (ev_t rfl) rfl (fun _ => B8.row)) ?_
  refine sr_pureg rfl rfl rfl (fun _ => (rc_call go_types_Comparable ev_f (args_cons (ev_u rfl id) (args_cons (ev_u rfl id) (args_nil))) rfl)) (fun hc => tcomp_ok ⟨5, []⟩ ⟨5, []⟩ _ (hL.grow g) (by have := g.size; omega)) (fun w35 g35 => ?_)
  have g := g.trans (g35)
  try have gm := gm.trans (g35)
  replace B1 := B1.grow (g35)
  replace B2 := B2.grow (g35)
  replace B3 := B3.grow (g35)
  replace B6 := B6.grow (g35)
  replace B8 := B8.grow (g35)
  refine sr_pug rfl rfl rfl (fun _ => rd_not (ev_u rfl id)) ?_
  refine sr_pu rfl (fun _ => rd_pick_and (ev_t rfl) (ev_u rfl id)) ?_
  refine sr_pu rfl (fun _ => rd_move (ev_t rfl)) ?_
  refine sr_rdg rfl rfl rfl (rd_loads agg_api_Type (ev_t rfl) rfl (fun _ => B3.row)) ?_
  refine sr_pug rfl rfl rfl (fun _ => rd_build [_, _] ze_api_Type rfl pl_api_Type (parts_cons ev_c (parts_nil)) rfl) ?_
  refine sr_pug rfl rfl rfl (fun _ => rd_steq fl_api_Type (ev_u rfl id) (ev_u rfl id) rfl) ?_
  refine sr_pu rfl (fun _ => rd_pick_and (ev_t rfl) (ev_u rfl id)) ?_
  refine sr_pu rfl (fun _ => rd_move (ev_t rfl)) ?_
  refine sr_pug rfl rfl rfl (fun _ => rd_move (ev_t rfl)) ?_
  refine sr_pu rfl (fun _ => rd_pick_and (ev_t rfl) (ev_u rfl id)) ?_
  refine sr_pu rfl (fun _ => rd_move (ev_t rfl)) ?_
  refine sr_pug rfl rfl rfl (fun _ => rd_move (ev_t rfl)) ?_
  refine sr_pug rfl rfl rfl (fun _ => rd_len el_sl_api_Type (ev_u rfl id)) ?_
  refine sr_pug rfl rfl rfl (fun _ => rd_eq (ev_u rfl id) ev_c) ?_
  refine sr_pu rfl (fun _ => rd_pick_and (ev_t rfl) (ev_u rfl id)) ?_
  refine sr_pu rfl (fun _ => rd_move (ev_t rfl)) ?_
  refine sr_pug rfl rfl rfl (fun _ => rd_move (ev_t rfl)) ?_
  refine sr_pug rfl rfl rfl (fun _ => rd_idx el_sl_api_Type (ev_u rfl id) ev_c (fun _ => by show (0:Int) ≤ 0 ∧ (0:Int) < ((1 : Nat) : Int); omega)) ?_
  refine sr_rdg rfl rfl rfl (rd_loads agg_api_Type (ev_u rfl id) rfl (fun _ => (hRr.grow gm))) ?_
  refine sr_rdg rfl rfl rfl (rd_loads agg_api_Type (ev_t rfl) rfl (fun _ => B2.row)) ?_
  refine sr_pug rfl rfl rfl (fun _ => rd_steq fl_api_Type (ev_u rfl id) (ev_u rfl id) rfl) ?_
  refine sr_pu rfl (fun _ => rd_pick_and (ev_t rfl) (ev_u rfl id)) ?_
  refine sr_pu rfl (fun _ => rd_move (ev_t rfl)) ?_
  refine sr_rdg rfl rfl rfl (rd_loads agg_api_Type (ev_t rfl) rfl (fun _ => B6.row)) ?_
  refine sr_rdg rfl rfl rfl (rd_loads agg_api_Type (ev_t rfl) rfl (fun _ => B2.row)) ?_
  refine sr_pug rfl rfl rfl (fun _ => rd_steq fl_api_Type (ev_u rfl id) (ev_u rfl id) rfl) ?_
  refine sr_pu rfl (fun _ => rd_pick_and (ev_t rfl) (ev_u rfl id)) ?_
  refine sr_pu rfl (fun _ => rd_move (ev_t rfl)) ?_
  refine sr_pug rfl rfl rfl (fun _ => rd_move (ev_t rfl)) ?_
  refine sr_pu rfl (fun _ => rd_pick_and (ev_t rfl) (ev_u rfl id)) ?_
  refine sr_pu rfl (fun _ => rd_move (ev_t rfl)) ?_
  refine sr_rdg rfl rfl rfl (rd_loads agg_api_Type (ev_t rfl) rfl (fun _ => B1.row)) ?_
  refine sr_pureg rfl rfl rfl (fun _ => (rc_call go_types_Cell ev_f (args_cons (ev_u rfl id) (args_nil)) rfl)) (fun hc => tcell_ok ⟨4, [84]⟩ _ (hL.grow g) (by have := g.size; omega)) (fun w68 g68 => ?_)
  have g := g.trans (g68)
  try have gm := gm.trans (g68)
  replace B1 := B1.grow (g68)
  replace B2 := B2.grow (g68)
  replace B3 := B3.grow (g68)
  replace B6 := B6.grow (g68)
  replace B8 := B8.grow (g68)
  refine sr_pug rfl rfl rfl (fun _ => rd_eq (ev_u rfl id) ev_c) ?_
  refine sr_pu rfl (fun _ => rd_pick_and (ev_t rfl) (ev_u rfl id)) ?_
  refine sr_pu rfl (fun _ => rd_move (ev_t rfl)) ?_
  refine sr_rdg rfl rfl rfl (rd_loads agg_api_Type (ev_t rfl) rfl (fun _ => B1.row)) ?_
  refine sr_pureg rfl rfl rfl (fun _ => (rc_call go_types_Value ev_f (args_cons (ev_u rfl id) (args_nil)) rfl)) (fun hc => tvalue_ok ⟨4, [84]⟩ _ (hL.grow g) (by have := g.size; omega)) (fun w73 g73 => ?_)
  have g := g.trans (g73)
  try have gm := gm.trans (g73)
  replace B1 := B1.grow (g73)
  replace B2 := B2.grow (g73)
  replace B3 := B3.grow (g73)
  replace B6 := B6.grow (g73)
  replace B8 := B8.grow (g73)
  refine sr_pu rfl (fun _ => rd_pick_and (ev_t rfl) (ev_u rfl id)) ?_
  refine sr_pu rfl (fun _ => rd_assign (ev_t rfl)) ?_
  refine sr_sub [(0, _, _)] (sub_cons rfl (sub_nil _)) ?_
  refine sr_nil (hK7 _ _ ?_)
  refine sc_ret (t_ret1 rfl rfl ?_)
  refine ⟨congrArg Value.bool ?_, g⟩
  kernel_rfl
theorem binT_law (op : List UInt8) (a b : Ty) : (bif !(binT op a b).2 then tyEqB (binT op a b).1 ty0 else anyS binOps op && (tyEqB (binT op a b).1 tInt || tyEqB (binT op a b).1 tBool)) = true := by
  have h0 : tyEqB ty0 ty0 = true := tyEqB_refl _
  have h1 : tyEqB tInt tInt = true := tyEqB_refl _
  have h2 : tyEqB tBool tBool = true := tyEqB_refl _
  have hm : ∀ l, (∀ x ∈ l, x ∈ binOps) → anyS l op = true → anyS binOps op = true := fun l hl h => (anyS_iff _ _).2 (hl _ ((anyS_iff _ _).1 h))
  have s1 : ∀ x ∈ opAr, x ∈ binOps := by decide
  have s2 : ∀ x ∈ opLt, x ∈ binOps := by decide
  have s3 : ∀ x ∈ opEq, x ∈ binOps := by decide
  have s4 : ∀ x ∈ opLo, x ∈ binOps := by decide
  unfold binT
  cases h3 : anyS opAr op
  · cases h4 : anyS opLt op
    · cases h5 : anyS opEq op
      · cases h6 : anyS opLo op
        · exact h0
        · cases tyEqB a tBool && tyEqB b tBool
          · exact h0
          · simp [hm _ s4 h6, h2]
      · cases compB a b
        · exact h0
        · simp [hm _ s3 h5, h2]
    · cases tyEqB a tInt && tyEqB b tInt
      · exact h0
      · simp [hm _ s2 h4, h2]
  · cases tyEqB a tInt && tyEqB b tInt
    · exact h0
    · simp [hm _ s1 h3, h1]
theorem comp_comm (a b : Ty) : compB a b = compB b a := by
  unfold compB
  rw [Bool.or_comm (tyEqB a tNil), Bool.or_comm (refB a)]
  cases tyEqB b tNil || tyEqB a tNil
  · simp only [cond_false]
    rw [tyEqB_comm b a]
    cases h : tyEqB a b
    · simp
    · rw [(tyEqB_iff a b).1 h]
  · rfl
theorem comp_nil (a : Ty) : compB tNil a = assignB a tNil := by
  have h1 : refB tNil = false := rfl
  have h2 : tyEqB tNil tNil = true := rfl
  unfold compB assignB
  rw [h2, h1]
  simp only [Bool.true_or, cond_true, Bool.false_or, Bool.true_and]
  cases h : refB a
  · simp only [Bool.or_false]
    cases h3 : tyEqB tNil a
    · simp
    · have := (tyEqB_iff _ _).1 h3
      subst this
      rfl
  · have : valueB a = true := by unfold valueB; rw [h]; simp
    rw [this]; simp
theorem assign_self (a : Ty) : assignB a a = valueB a := by unfold assignB; rw [tyEqB_refl]; simp
theorem assign_two {a b : Ty} (h1 : tyEqB a b = false) (h3 : valueB b = true) : assignB a b = false := by
  unfold assignB
  rw [tyEqB_comm b a, h1, Bool.false_or]
  have : tyEqB b tNil = false := by
    cases h : tyEqB b tNil
    · rfl
    · rw [(tyEqB_iff _ _).1 h] at h3; cases h3
  rw [this]; simp
theorem texts_ne0 : ((List.range 13).all fun i => (List.range 13).all fun j => i == 4 || j == 4 || i == j || !decide (typTexts.getD i [] = typTexts.getD j [])) = true := by kernel_rfl
theorem texts_ne (i : Nat) (hi : i < 13) (j : Nat) (hj : j < 13) (h1 : i ≠ 4) (h2 : j ≠ 4) (h : typTexts.getD i [] = typTexts.getD j []) : i = j := by
  have := List.all_eq_true.1 (List.all_eq_true.1 texts_ne0 i (List.mem_range.2 hi)) j (List.mem_range.2 hj)
  rw [h] at this
  simpa [h1, h2] using this
theorem texts_star0 : ((List.range 13).all fun i => !decide ((typTexts.getD i []).head? = some 42)) = true := by kernel_rfl
theorem texts_star (i : Nat) (hi : i < 13) : (typTexts.getD i []).head? ≠ some 42 := by
  have := List.all_eq_true.1 texts_star0 i (List.mem_range.2 hi)
  simpa using this
theorem text_inj {a b : Ty} (ha : validB a = true) (hb : validB b = true) (h : textB a = textB b) : a = b := by
  unfold textB at h
  rw [ha, hb] at h
  simp only [Bool.not_true, cond_false] at h
  cases h4 : decide (a.kind = 4)
  · obtain ⟨p1, p2, p3⟩ := valid_kind ha h4
    cases k4 : decide (b.kind = 4)
    · obtain ⟨q1, q2, q3⟩ := valid_kind hb k4
      rw [h4, k4] at h
      simp only [cond_false] at h
      have := texts_ne a.kind.toNat (by omega) b.kind.toNat (by omega) (by have := of_decide_eq_false h4; omega) (by have := of_decide_eq_false k4; omega) h
      exact Ty.ext' (by omega) (by rw [p3, q3])
    · rw [h4, k4] at h
      simp only [cond_false, cond_true] at h
      exact absurd (by rw [h]; rfl) (texts_star a.kind.toNat (by omega))
  · cases k4 : decide (b.kind = 4)
    · obtain ⟨q1, q2, q3⟩ := valid_kind hb k4
      rw [h4, k4] at h
      simp only [cond_false, cond_true] at h
      exact absurd (by rw [← h]; rfl) (texts_star b.kind.toNat (by omega))
    · rw [h4, k4] at h
      simp only [cond_true] at h
      exact Ty.ext' (by rw [of_decide_eq_true h4, of_decide_eq_true k4]) (by injection h)
theorem text_law (a b : Ty) (w : World) (hL : Laid w) (hTx : LaidT w) (hb3 : 4 ≤ w.heap.size) : Ret PP fn_l05_TypesText #[tyV a, tyV b] w fun v w' => v = .bool true ∧ G w w' := by
  have g := G.refl w
  refine ret_of_sc (m := 47) func_l05_TypesText rfl rfl [(0, True, _), (1, True, _)] (sub_cons rfl (sub_cons rfl (sub_nil _))) ?_
  refine sc_seq fun K1 hK1 => ?_
  refine sc_text [1, 1, 3] ?_
  refine sr_box rfl (ev_t rfl) rfl ?_
  intro b2 w2 N2
  have l2 := N2.ge g
  have g := g.trans (N2.g)
  have B2 := N2.blk
  refine sr_box rfl (ev_t rfl) rfl ?_
  intro b3 w3 N3
  have x3_2 := N3.ne B2
  have l3 := N3.ge g
  have g := g.trans (N3.g)
  replace B2 := B2.grow (N3.g)
  have B3 := N3.blk
  refine sr_pu rfl (fun _ => rd_assign ev_c) ?_
  refine sr_sub [(2, _, _), (3, _, _), (4, _, _)] (sub_cons rfl (sub_cons rfl (sub_cons rfl (sub_nil _)))) ?_
  refine sr_nil (hK1 _ _ ?_)
  refine sc_seq fun K2 hK2 => ?_
  refine sc_seq fun K3 hK3 => ?_
  refine sc_text [1, 3] ?_
  refine sr_pure rfl (rc_call go_l05_awake ev_f (args_nil) rfl) (awake5_ok _ (hL.grow g) (hTx.grow g) (by have := g.size; omega)) (fun w6 g6 => ?_)
  have g := g.trans (g6)
  replace B2 := B2.grow (g6)
  replace B3 := B3.grow (g6)
  refine sr_pu rfl (fun _ => rd_not (ev_t rfl)) ?_
  refine sr_sub [(2, _, _), (3, _, _), (4, _, _), (7, _, _)] (sub_cons rfl (sub_cons rfl (sub_cons rfl (sub_cons rfl (sub_nil _))))) ?_
  refine sr_nil (hK3 _ _ ?_)
  refine sc_false (ev_t rfl) ?_
  refine sc_skip (hK2 _ _ ?_)
  refine sc_sub [(2, _, _), (3, _, _), (4, _, _)] (sub_cons rfl (sub_cons rfl (sub_cons rfl (sub_nil _)))) ?_
  refine sc_seq fun K4 hK4 => ?_
  refine sc_text [0, 1, 3] ?_
  refine sr_rd rfl (rd_loads agg_api_Type (ev_t rfl) rfl (fun _ => B2.row)) ?_
  refine sr_pure rfl (rc_call go_types_Text ev_f (args_cons (ev_t rfl) (args_nil)) rfl) (ttext_ok _ _ (hL.grow g) (by have := g.size; omega) (hTx.grow g)) (fun w9 g9 => ?_)
  have g := g.trans (g9)
  replace B2 := B2.grow (g9)
  replace B3 := B3.grow (g9)
  refine sr_pu rfl (fun _ => rd_assign (ev_t rfl)) ?_
  refine sr_sub [(2, _, _), (3, _, _), (4, _, _), (5, _, _)] (sub_cons rfl (sub_cons rfl (sub_cons rfl (sub_cons rfl (sub_nil _))))) ?_
  refine sr_nil (hK4 _ _ ?_)
  refine sc_seq fun K5 hK5 => ?_
  refine sc_seq fun K6 hK6 => ?_
  skip
  refine sc_draw [3, 0, 1, 3, 3, 0, 1, 0, 1, 3, 3, 3, 0, 1, 0, 1, 3, 3] [true, true, true, true, true, true, true, false, true, true, true, true, true, true, false, true, true, true] [0, 0, 2, 7, 15, 31, 63, 31, 255, 511, 1023, 2047, 4095, 8191, 4095, 32767, 65535, 131071] mix (by kernel_rfl) ?_
  have g := g.trans (G.drew _)
  replace B2 := B2.grow (G.drew _)
  replace B3 := B3.grow (G.drew _)
  have C2 := B2
  have C3 := B3
  refine sr_pu rfl (fun _ => rd_move (ev_t rfl)) ?_
  refine sr_rd rfl (rd_loads agg_api_Type (ev_t rfl) rfl (fun _ => B2.row)) ?_
  refine sr_pure rfl (rc_call go_r05_Text ev_f (args_cons (ev_t rfl) (args_nil)) rfl) (rtext_ok _ _) (fun w12 g12 => ?_)
  have g := g.trans (g12)
  replace B2 := B2.grow (g12)
  replace B3 := B3.grow (g12)
  refine sr_pu rfl (fun _ => rd_sne (ev_t rfl) (ev_t rfl)) ?_
  refine sr_pu rfl (fun _ => rd_move (ev_t rfl)) ?_
  refine sr_rdg rfl rfl rfl (rd_loads agg_api_Type (ev_t rfl) rfl (fun _ => B2.row)) ?_
  refine sr_pureg rfl rfl rfl (fun _ => (rc_call go_types_Cell ev_f (args_cons (ev_u rfl id) (args_nil)) rfl)) (fun hc => tcell_ok _ _ (hL.grow g) (by have := g.size; omega)) (fun w16 g16 => ?_)
  have g := g.trans (g16)
  replace B2 := B2.grow (g16)
  replace B3 := B3.grow (g16)
  refine sr_rdg0 rfl rfl rfl (rd_loads agg_api_Type (ev_t rfl) rfl (fun _ => C2.row)) ?_
  refine sr_pureg rfl rfl rfl (fun _ => (rc_call go_r05_Cell ev_f (args_cons (ev_u rfl id) (args_nil)) rfl)) (fun hc => rcell_ok _ _) (fun w18 g18 => ?_)
  have g := g.trans (g18)
  replace B2 := B2.grow (g18)
  replace B3 := B3.grow (g18)
  refine sr_pug rfl rfl rfl (fun _ => rd_ne (ev_u rfl id) (ev_u rfl id)) ?_
  refine sr_pu rfl (fun _ => rd_pick_or (ev_t rfl) (ev_u rfl id)) ?_
  refine sr_pu rfl (fun _ => rd_move (ev_t rfl)) ?_
  refine sr_rdg rfl rfl rfl (rd_loads agg_api_Type (ev_t rfl) rfl (fun _ => B2.row)) ?_
  refine sr_pureg rfl rfl rfl (fun _ => (rc_call go_types_Value ev_f (args_cons (ev_u rfl id) (args_nil)) rfl)) (fun hc => tvalue_ok _ _ (hL.grow g) (by have := g.size; omega)) (fun w23 g23 => ?_)
  have g := g.trans (g23)
  replace B2 := B2.grow (g23)
  replace B3 := B3.grow (g23)
  refine sr_rdg0 rfl rfl rfl (rd_loads agg_api_Type (ev_t rfl) rfl (fun _ => C2.row)) ?_
  refine sr_pureg rfl rfl rfl (fun _ => (rc_call go_r05_Value ev_f (args_cons (ev_u rfl id) (args_nil)) rfl)) (fun hc => rvalue_ok _ _) (fun w25 g25 => ?_)
  have g := g.trans (g25)
  replace B2 := B2.grow (g25)
  replace B3 := B3.grow (g25)
  refine sr_pug rfl rfl rfl (fun _ => rd_bne und_bool (ev_u rfl id) (ev_u rfl id)) ?_
  refine sr_pu rfl (fun _ => rd_pick_or (ev_t rfl) (ev_u rfl id)) ?_
  refine sr_sub [(2, _, _), (3, _, _), (4, _, _), (5, _, _), (27, _, _)] (sub_cons rfl (sub_cons rfl (sub_cons rfl (sub_cons rfl (sub_cons rfl (sub_nil _)))))) ?_
  refine sr_nil (hK6 _ _ ?_)
  refine sc_cond (ev_t rfl) (fun h2 => ?_) (fun h2 => ?_)
  · simp at h2
    done
  · (try simp only [bsimp] at h2)
    refine sc_skip (hK5 _ _ ?_)
    refine sc_sub [(2, _, _), (3, _, _), (4, _, _), (5, _, _)] (sub_cons rfl (sub_cons rfl (sub_cons rfl (sub_cons rfl (sub_nil _))))) ?_
    refine sc_seq fun K7 hK7 => ?_
    refine sc_text [0, 0, 3, 3, 3, 0, 1, 3, 3, 3, 0, 1, 3, 3, 3, 0, 1, 3, 3, 3] ?_
    refine sr_rd rfl (rd_loads agg_api_Type (ev_t rfl) rfl (fun _ => B2.row)) ?_
    refine sr_rd rfl (rd_loads agg_api_Type (ev_t rfl) rfl (fun _ => B3.row)) ?_
    refine sr_pu rfl (fun _ => rd_steq fl_api_Type (ev_t rfl) (ev_t rfl) rfl) ?_
    refine sr_pu rfl (fun _ => rd_move (ev_t rfl)) ?_
    refine sr_pug rfl rfl rfl (fun _ => rd_move (ev_t rfl)) ?_
    refine sr_rdg rfl rfl rfl (rd_loads agg_api_Type (ev_t rfl) rfl (fun _ => B3.row)) ?_
    refine sr_pureg rfl rfl rfl (fun _ => (rc_call go_types_Text ev_f (args_cons (ev_u rfl id) (args_nil)) rfl)) (fun hc => ttext_ok _ _ (hL.grow g) (by have := g.size; omega) (hTx.grow g)) (fun w34 g34 => ?_)
    have g := g.trans (g34)
    replace B2 := B2.grow (g34)
    replace B3 := B3.grow (g34)
    refine sr_pug rfl rfl rfl (fun _ => rd_sne (ev_u rfl id) (ev_u rfl id)) ?_
    refine sr_pu rfl (fun _ => rd_pick_or (ev_t rfl) (ev_u rfl id)) ?_
    refine sr_pu rfl (fun _ => rd_move (ev_t rfl)) ?_
    refine sr_rdg rfl rfl rfl (rd_loads agg_api_Type (ev_t rfl) rfl (fun _ => B2.row)) ?_
    refine sr_pureg rfl rfl rfl (fun _ => (rc_call go_r05_Valid ev_f (args_cons (ev_u rfl id) (args_nil)) rfl)) (fun hc => rvalid_ok _ _) (fun w39 g39 => ?_)
    have g := g.trans (g39)
    replace B2 := B2.grow (g39)
    replace B3 := B3.grow (g39)
    refine sr_pug rfl rfl rfl (fun _ => rd_not (ev_u rfl id)) ?_
    refine sr_pu rfl (fun _ => rd_pick_or (ev_t rfl) (ev_u rfl id)) ?_
    refine sr_pu rfl (fun _ => rd_move (ev_t rfl)) ?_
    refine sr_rdg rfl rfl rfl (rd_loads agg_api_Type (ev_t rfl) rfl (fun _ => B3.row)) ?_
    refine sr_pureg rfl rfl rfl (fun _ => (rc_call go_r05_Valid ev_f (args_cons (ev_u rfl id) (args_nil)) rfl)) (fun hc => rvalid_ok _ _) (fun w44 g44 => ?_)
    have g := g.trans (g44)
    replace B2 := B2.grow (g44)
    replace B3 := B3.grow (g44)
    refine sr_pug rfl rfl rfl (fun _ => rd_not (ev_u rfl id)) ?_
    refine sr_pu rfl (fun _ => rd_pick_or (ev_t rfl) (ev_u rfl id)) ?_
    refine sr_pu rfl (fun _ => rd_assign (ev_t rfl)) ?_
    refine sr_sub [(4, _, _)] (sub_cons rfl (sub_nil _)) ?_
    refine sr_nil (hK7 _ _ ?_)
    refine sc_ret (t_ret1 rfl rfl ?_)
    refine ⟨congrArg Value.bool ?_, g⟩
    show ((((tyEqB a b || !decide (textB a = textB b)) || !validB a) || !validB b)) = true
    cases h3 : validB a
    · simp
    · cases h4 : validB b
      · simp
      · by_cases h5 : textB a = textB b
        · rw [text_inj h3 h4 h5, tyEqB_refl]; rfl
        · rw [decide_eq_false h5]; simp
theorem assign_law (a b : Ty) (w : World) (hL : Laid w) (hTx : LaidT w) (hb3 : 4 ≤ w.heap.size) : Ret PP fn_l05_TypesAssign #[tyV a, tyV b] w fun v w' => v = .bool true ∧ G w w' := by
  have g := G.refl w
  refine ret_of_sc (m := 41) func_l05_TypesAssign rfl rfl [(0, True, _), (1, True, _)] (sub_cons rfl (sub_cons rfl (sub_nil _))) ?_
  refine sc_seq fun K1 hK1 => ?_
  refine sc_text [1, 1, 3] ?_
  refine sr_box rfl (ev_t rfl) rfl ?_
  intro b2 w2 N2
  have l2 := N2.ge g
  have g := g.trans (N2.g)
  have B2 := N2.blk
  refine sr_box rfl (ev_t rfl) rfl ?_
  intro b3 w3 N3
  have x3_2 := N3.ne B2
  have l3 := N3.ge g
  have g := g.trans (N3.g)
  replace B2 := B2.grow (N3.g)
  have B3 := N3.blk
  refine sr_pu rfl (fun _ => rd_assign ev_c) ?_
  refine sr_sub [(2, _, _), (3, _, _), (4, _, _)] (sub_cons rfl (sub_cons rfl (sub_cons rfl (sub_nil _)))) ?_
  refine sr_nil (hK1 _ _ ?_)
  refine sc_seq fun K2 hK2 => ?_
  refine sc_seq fun K3 hK3 => ?_
  refine sc_text [1, 3] ?_
  refine sr_pure rfl (rc_call go_l05_awake ev_f (args_nil) rfl) (awake5_ok _ (hL.grow g) (hTx.grow g) (by have := g.size; omega)) (fun w5 g5 => ?_)
  have g := g.trans (g5)
  replace B2 := B2.grow (g5)
  replace B3 := B3.grow (g5)
  refine sr_pu rfl (fun _ => rd_not (ev_t rfl)) ?_
  refine sr_sub [(2, _, _), (3, _, _), (4, _, _), (6, _, _)] (sub_cons rfl (sub_cons rfl (sub_cons rfl (sub_cons rfl (sub_nil _))))) ?_
  refine sr_nil (hK3 _ _ ?_)
  refine sc_false (ev_t rfl) ?_
  refine sc_skip (hK2 _ _ ?_)
  refine sc_sub [(2, _, _), (3, _, _), (4, _, _)] (sub_cons rfl (sub_cons rfl (sub_cons rfl (sub_nil _)))) ?_
  refine sc_seq fun K4 hK4 => ?_
  refine sc_seq fun K5 hK5 => ?_
  skip
  refine sc_draw [0, 0, 1, 0, 0, 1, 3, 3, 0, 0, 1, 0, 1, 3, 3] [true, true, true, false, false, true, true, true, true, true, true, false, true, true, true] [0, 0, 3, 0, 0, 31, 63, 127, 255, 255, 1023, 255, 4095, 8191, 16383] mix (by kernel_rfl) ?_
  have g := g.trans (G.drew _)
  replace B2 := B2.grow (G.drew _)
  replace B3 := B3.grow (G.drew _)
  have C2 := B2
  have C3 := B3
  refine sr_rd rfl (rd_loads agg_api_Type (ev_t rfl) rfl (fun _ => B2.row)) ?_
  refine sr_rd rfl (rd_loads agg_api_Type (ev_t rfl) rfl (fun _ => B3.row)) ?_
  refine sr_pure rfl (rc_call go_types_Assignable ev_f (args_cons (ev_t rfl) (args_cons (ev_t rfl) (args_nil))) rfl) (tassign_ok _ _ _ (hL.grow g) (by have := g.size; omega)) (fun w9 g9 => ?_)
  have g := g.trans (g9)
  replace B2 := B2.grow (g9)
  replace B3 := B3.grow (g9)
  refine sr_rd0 rfl (rd_loads agg_api_Type (ev_t rfl) rfl (fun _ => C2.row)) ?_
  refine sr_rd0 rfl (rd_loads agg_api_Type (ev_t rfl) rfl (fun _ => C3.row)) ?_
  refine sr_pure rfl (rc_call go_r05_Assignable ev_f (args_cons (ev_t rfl) (args_cons (ev_t rfl) (args_nil))) rfl) (rassign_ok _ _ _) (fun w12 g12 => ?_)
  have g := g.trans (g12)
  replace B2 := B2.grow (g12)
  replace B3 := B3.grow (g12)
  refine sr_pu rfl (fun _ => rd_bne und_bool (ev_t rfl) (ev_t rfl)) ?_
  refine sr_pu rfl (fun _ => rd_move (ev_t rfl)) ?_
  refine sr_rdg rfl rfl rfl (rd_loads agg_api_Type (ev_t rfl) rfl (fun _ => B2.row)) ?_
  refine sr_rdg rfl rfl rfl (rd_loads agg_api_Type (ev_t rfl) rfl (fun _ => B2.row)) ?_
  refine sr_pureg rfl rfl rfl (fun _ => (rc_call go_types_Assignable ev_f (args_cons (ev_u rfl id) (args_cons (ev_u rfl id) (args_nil))) rfl)) (fun hc => tassign_ok _ _ _ (hL.grow g) (by have := g.size; omega)) (fun w17 g17 => ?_)
  have g := g.trans (g17)
  replace B2 := B2.grow (g17)
  replace B3 := B3.grow (g17)
  refine sr_rdg0 rfl rfl rfl (rd_loads agg_api_Type (ev_t rfl) rfl (fun _ => C2.row)) ?_
  refine sr_pureg rfl rfl rfl (fun _ => (rc_call go_types_Value ev_f (args_cons (ev_u rfl id) (args_nil)) rfl)) (fun hc => tvalue_ok _ _ (hL.grow g) (by have := g.size; omega)) (fun w19 g19 => ?_)
  have g := g.trans (g19)
  replace B2 := B2.grow (g19)
  replace B3 := B3.grow (g19)
  refine sr_pug rfl rfl rfl (fun _ => rd_bne und_bool (ev_u rfl id) (ev_u rfl id)) ?_
  refine sr_pu rfl (fun _ => rd_pick_or (ev_t rfl) (ev_u rfl id)) ?_
  refine sr_sub [(2, _, _), (3, _, _), (4, _, _), (21, _, _)] (sub_cons rfl (sub_cons rfl (sub_cons rfl (sub_cons rfl (sub_nil _))))) ?_
  refine sr_nil (hK5 _ _ ?_)
  refine sc_cond (ev_t rfl) (fun h2 => ?_) (fun h2 => ?_)
  · exfalso; simp [assign_self] at h2
    done
  · (try simp only [bsimp] at h2)
    refine sc_skip (hK4 _ _ ?_)
    refine sc_sub [(2, _, _), (3, _, _), (4, _, _)] (sub_cons rfl (sub_cons rfl (sub_cons rfl (sub_nil _)))) ?_
    refine sc_seq fun K6 hK6 => ?_
    refine sc_text [0, 0, 3, 3, 0, 1, 3, 3, 3, 0, 1, 3, 3, 3, 0, 0, 1, 3, 3, 3] ?_
    refine sr_rd rfl (rd_loads agg_api_Type (ev_t rfl) rfl (fun _ => B2.row)) ?_
    refine sr_rd rfl (rd_loads agg_api_Type (ev_t rfl) rfl (fun _ => B3.row)) ?_
    refine sr_pu rfl (fun _ => rd_steq fl_api_Type (ev_t rfl) (ev_t rfl) rfl) ?_
    refine sr_pu rfl (fun _ => rd_move (ev_t rfl)) ?_
    refine sr_rdg rfl rfl rfl (rd_loads agg_api_Type (ev_t rfl) rfl (fun _ => B2.row)) ?_
    refine sr_pureg rfl rfl rfl (fun _ => (rc_call go_types_Value ev_f (args_cons (ev_u rfl id) (args_nil)) rfl)) (fun hc => tvalue_ok _ _ (hL.grow g) (by have := g.size; omega)) (fun w27 g27 => ?_)
    have g := g.trans (g27)
    replace B2 := B2.grow (g27)
    replace B3 := B3.grow (g27)
    refine sr_pug rfl rfl rfl (fun _ => rd_not (ev_u rfl id)) ?_
    refine sr_pu rfl (fun _ => rd_pick_or (ev_t rfl) (ev_u rfl id)) ?_
    refine sr_pu rfl (fun _ => rd_move (ev_t rfl)) ?_
    refine sr_rdg rfl rfl rfl (rd_loads agg_api_Type (ev_t rfl) rfl (fun _ => B3.row)) ?_
    refine sr_pureg rfl rfl rfl (fun _ => (rc_call go_types_Value ev_f (args_cons (ev_u rfl id) (args_nil)) rfl)) (fun hc => tvalue_ok _ _ (hL.grow g) (by have := g.size; omega)) (fun w32 g32 => ?_)
    have g := g.trans (g32)
    replace B2 := B2.grow (g32)
    replace B3 := B3.grow (g32)
    refine sr_pug rfl rfl rfl (fun _ => rd_not (ev_u rfl id)) ?_
    refine sr_pu rfl (fun _ => rd_pick_or (ev_t rfl) (ev_u rfl id)) ?_
    refine sr_pu rfl (fun _ => rd_move (ev_t rfl)) ?_
    refine sr_rdg rfl rfl rfl (rd_loads agg_api_Type (ev_t rfl) rfl (fun _ => B2.row)) ?_
    refine sr_rdg rfl rfl rfl (rd_loads agg_api_Type (ev_t rfl) rfl (fun _ => B3.row)) ?_
    refine sr_pureg rfl rfl rfl (fun _ => (rc_call go_types_Assignable ev_f (args_cons (ev_u rfl id) (args_cons (ev_u rfl id) (args_nil))) rfl)) (fun hc => tassign_ok _ _ _ (hL.grow g) (by have := g.size; omega)) (fun w38 g38 => ?_)
    have g := g.trans (g38)
    replace B2 := B2.grow (g38)
    replace B3 := B3.grow (g38)
    refine sr_pug rfl rfl rfl (fun _ => rd_not (ev_u rfl id)) ?_
    refine sr_pu rfl (fun _ => rd_pick_or (ev_t rfl) (ev_u rfl id)) ?_
    refine sr_pu rfl (fun _ => rd_assign (ev_t rfl)) ?_
    refine sr_sub [(4, _, _)] (sub_cons rfl (sub_nil _)) ?_
    refine sr_nil (hK6 _ _ ?_)
    refine sc_ret (t_ret1 rfl rfl ?_)
    refine ⟨congrArg Value.bool ?_, g⟩
    show (((tyEqB a b || !valueB a) || !valueB b) || !assignB a b) = true
    cases h3 : tyEqB a b
    · cases h4 : valueB b
      · simp
      · rw [assign_two h3 h4]; simp
    · rfl
theorem compare_law (a b : Ty) (w : World) (hL : Laid w) (hTx : LaidT w) (hb3 : 4 ≤ w.heap.size) : Ret PP fn_l05_TypesCompare #[tyV a, tyV b] w fun v w' => v = .bool true ∧ G w w' := by
  have g := G.refl w
  refine ret_of_sc (m := 34) func_l05_TypesCompare rfl rfl [(0, True, _), (1, True, _)] (sub_cons rfl (sub_cons rfl (sub_nil _))) ?_
  refine sc_seq fun K1 hK1 => ?_
  refine sc_text [1, 1, 3] ?_
  refine sr_box rfl (ev_t rfl) rfl ?_
  intro b2 w2 N2
  have l2 := N2.ge g
  have g := g.trans (N2.g)
  have B2 := N2.blk
  refine sr_box rfl (ev_t rfl) rfl ?_
  intro b3 w3 N3
  have x3_2 := N3.ne B2
  have l3 := N3.ge g
  have g := g.trans (N3.g)
  replace B2 := B2.grow (N3.g)
  have B3 := N3.blk
  refine sr_pu rfl (fun _ => rd_assign ev_c) ?_
  refine sr_sub [(2, _, _), (3, _, _), (4, _, _)] (sub_cons rfl (sub_cons rfl (sub_cons rfl (sub_nil _)))) ?_
  refine sr_nil (hK1 _ _ ?_)
  refine sc_seq fun K2 hK2 => ?_
  refine sc_seq fun K3 hK3 => ?_
  refine sc_text [1, 3] ?_
  refine sr_pure rfl (rc_call go_l05_awake ev_f (args_nil) rfl) (awake5_ok _ (hL.grow g) (hTx.grow g) (by have := g.size; omega)) (fun w7 g7 => ?_)
  have g := g.trans (g7)
  replace B2 := B2.grow (g7)
  replace B3 := B3.grow (g7)
  refine sr_pu rfl (fun _ => rd_not (ev_t rfl)) ?_
  refine sr_sub [(2, _, _), (3, _, _), (4, _, _), (8, _, _)] (sub_cons rfl (sub_cons rfl (sub_cons rfl (sub_cons rfl (sub_nil _))))) ?_
  refine sr_nil (hK3 _ _ ?_)
  refine sc_false (ev_t rfl) ?_
  refine sc_skip (hK2 _ _ ?_)
  refine sc_sub [(2, _, _), (3, _, _), (4, _, _)] (sub_cons rfl (sub_cons rfl (sub_cons rfl (sub_nil _)))) ?_
  refine sc_seq fun K4 hK4 => ?_
  refine sc_text [3, 1, 2] ?_
  refine sr_pu rfl (fun _ => rd_build [_, _] ze_api_Type rfl pl_api_Type (parts_cons ev_c (parts_nil)) rfl) ?_
  refine sr_alloc rfl ze_api_Type rfl ?_
  intro b5 w5 N5
  have x5_2 := N5.ne B2
  have x5_3 := N5.ne B3
  have l5 := N5.ge g
  have g := g.trans (N5.g)
  replace B2 := B2.grow (N5.g)
  replace B3 := B3.grow (N5.g)
  have B5 := N5.blk
  refine sr_store_all rfl sz_api_Type (ev_t rfl) (ev_t rfl) rfl rfl B5 rfl rfl ?_
  intro wS1 hgS1 hzS1
  clear B5
  intro B5
  replace B2 := B2.keep hgS1 (by intro h; injection h with h; omega)
  replace B3 := B3.keep hgS1 (by intro h; injection h with h; omega)
  have g := g_only g hgS1 (by intro k hk; injection hk with hk; omega)
  refine sr_sub [(2, _, _), (3, _, _), (4, _, _), (5, _, _)] (sub_cons rfl (sub_cons rfl (sub_cons rfl (sub_cons rfl (sub_nil _))))) ?_
  refine sr_nil (hK4 _ _ ?_)
  refine sc_seq fun K5 hK5 => ?_
  refine sc_text [0, 0, 1, 3] ?_
  refine sr_rd rfl (rd_loads agg_api_Type (ev_t rfl) rfl (fun _ => B2.row)) ?_
  refine sr_rd rfl (rd_loads agg_api_Type (ev_t rfl) rfl (fun _ => B3.row)) ?_
  refine sr_pure rfl (rc_call go_types_Comparable ev_f (args_cons (ev_t rfl) (args_cons (ev_t rfl) (args_nil))) rfl) (tcomp_ok _ _ _ (hL.grow g) (by have := g.size; omega)) (fun w12 g12 => ?_)
  have g := g.trans (g12)
  replace B2 := B2.grow (g12)
  replace B3 := B3.grow (g12)
  replace B5 := B5.grow (g12)
  refine sr_pu rfl (fun _ => rd_assign (ev_t rfl)) ?_
  refine sr_sub [(2, _, _), (3, _, _), (4, _, _), (5, _, _), (6, _, _)] (sub_cons rfl (sub_cons rfl (sub_cons rfl (sub_cons rfl (sub_cons rfl (sub_nil _)))))) ?_
  refine sr_nil (hK5 _ _ ?_)
  refine sc_seq fun K6 hK6 => ?_
  skip
  refine sc_draw [3, 0, 0, 1, 3, 3, 3, 0, 0, 1, 3, 3, 3, 0, 0, 1, 0, 0, 1, 3, 3, 3] [true, true, true, true, true, true, true, true, true, true, true, true, true, true, true, true, false, false, true, true, true, true] [0, 0, 0, 6, 15, 31, 63, 63, 63, 447, 1023, 2047, 4095, 8191, 8191, 32767, 8191, 8191, 262143, 524287, 1048575, 2097151] mix (by kernel_rfl) ?_
  have g := g.trans (G.drew _)
  replace B2 := B2.grow (G.drew _)
  replace B3 := B3.grow (G.drew _)
  replace B5 := B5.grow (G.drew _)
  have C2 := B2
  have C3 := B3
  have C5 := B5
  refine sr_pu rfl (fun _ => rd_move (ev_t rfl)) ?_
  refine sr_rd rfl (rd_loads agg_api_Type (ev_t rfl) rfl (fun _ => B2.row)) ?_
  refine sr_rd rfl (rd_loads agg_api_Type (ev_t rfl) rfl (fun _ => B3.row)) ?_
  refine sr_pure rfl (rc_call go_r05_Comparable ev_f (args_cons (ev_t rfl) (args_cons (ev_t rfl) (args_nil))) rfl) (rcomp_ok _ _ _) (fun w16 g16 => ?_)
  have g := g.trans (g16)
  replace B2 := B2.grow (g16)
  replace B3 := B3.grow (g16)
  replace B5 := B5.grow (g16)
  refine sr_pu rfl (fun _ => rd_beq und_bool (ev_t rfl) (ev_t rfl)) ?_
  refine sr_pu rfl (fun _ => rd_move (ev_t rfl)) ?_
  refine sr_pug rfl rfl rfl (fun _ => rd_move (ev_t rfl)) ?_
  refine sr_rdg rfl rfl rfl (rd_loads agg_api_Type (ev_t rfl) rfl (fun _ => B3.row)) ?_
  refine sr_rdg rfl rfl rfl (rd_loads agg_api_Type (ev_t rfl) rfl (fun _ => B2.row)) ?_
  refine sr_pureg rfl rfl rfl (fun _ => (rc_call go_types_Comparable ev_f (args_cons (ev_u rfl id) (args_cons (ev_u rfl id) (args_nil))) rfl)) (fun hc => tcomp_ok _ _ _ (hL.grow g) (by have := g.size; omega)) (fun w22 g22 => ?_)
  have g := g.trans (g22)
  replace B2 := B2.grow (g22)
  replace B3 := B3.grow (g22)
  replace B5 := B5.grow (g22)
  refine sr_pug rfl rfl rfl (fun _ => rd_beq und_bool (ev_u rfl id) (ev_u rfl id)) ?_
  refine sr_pu rfl (fun _ => rd_pick_and (ev_t rfl) (ev_u rfl id)) ?_
  refine sr_pu rfl (fun _ => rd_move (ev_t rfl)) ?_
  refine sr_rdg rfl rfl rfl (rd_loads agg_api_Type (ev_t rfl) rfl (fun _ => B5.row)) ?_
  refine sr_rdg rfl rfl rfl (rd_loads agg_api_Type (ev_t rfl) rfl (fun _ => B2.row)) ?_
  refine sr_pureg rfl rfl rfl (fun _ => (rc_call go_types_Comparable ev_f (args_cons (ev_u rfl id) (args_cons (ev_u rfl id) (args_nil))) rfl)) (fun hc => tcomp_ok tNil a _ (hL.grow g) (by have := g.size; omega)) (fun w28 g28 => ?_)
  have g := g.trans (g28)
  replace B2 := B2.grow (g28)
  replace B3 := B3.grow (g28)
  replace B5 := B5.grow (g28)
  refine sr_rdg0 rfl rfl rfl (rd_loads agg_api_Type (ev_t rfl) rfl (fun _ => C2.row)) ?_
  refine sr_rdg0 rfl rfl rfl (rd_loads agg_api_Type (ev_t rfl) rfl (fun _ => C5.row)) ?_
  refine sr_pureg rfl rfl rfl (fun _ => (rc_call go_types_Assignable ev_f (args_cons (ev_u rfl id) (args_cons (ev_u rfl id) (args_nil))) rfl)) (fun hc => tassign_ok a tNil _ (hL.grow g) (by have := g.size; omega)) (fun w31 g31 => ?_)
  have g := g.trans (g31)
  replace B2 := B2.grow (g31)
  replace B3 := B3.grow (g31)
  replace B5 := B5.grow (g31)
  refine sr_pug rfl rfl rfl (fun _ => rd_beq und_bool (ev_u rfl id) (ev_u rfl id)) ?_
  refine sr_pu rfl (fun _ => rd_pick_and (ev_t rfl) (ev_u rfl id)) ?_
  refine sr_pu rfl (fun _ => rd_assign (ev_t rfl)) ?_
  refine sr_sub [(4, _, _)] (sub_cons rfl (sub_nil _)) ?_
  refine sr_nil (hK6 _ _ ?_)
  refine sc_ret (t_ret1 rfl rfl ?_)
  refine ⟨congrArg Value.bool ?_, g⟩
  rw [comp_comm b a, comp_nil a]; simp
theorem binary_law (op : List UInt8) (a b : Ty) (w : World) (hL : Laid w) (hTx : LaidT w) (hb3 : 4 ≤ w.heap.size) : Ret PP fn_l05_TypesBinary #[Str op, tyV a, tyV b] w fun v w' => v = .bool true ∧ G w w' := by
  have g := G.refl w
  have hlaw := binT_law op a b
  refine ret_of_sc (m := 52) func_l05_TypesBinary rfl rfl [(0, True, _), (1, True, _), (2, True, _)] (sub_cons rfl (sub_cons rfl (sub_cons rfl (sub_nil _)))) ?_
  refine sc_seq fun K1 hK1 => ?_
  refine sc_text [1, 1, 3] ?_
  refine sr_box rfl (ev_t rfl) rfl ?_
  intro b4 w4 N4
  have l4 := N4.ge g
  have g := g.trans (N4.g)
  have B4 := N4.blk
  refine sr_box rfl (ev_t rfl) rfl ?_
  intro b5 w5 N5
  have x5_4 := N5.ne B4
  have l5 := N5.ge g
  have g := g.trans (N5.g)
  replace B4 := B4.grow (N5.g)
  have B5 := N5.blk
  refine sr_pu rfl (fun _ => rd_assign ev_c) ?_
  refine sr_sub [(0, _, _), (4, _, _), (5, _, _), (6, _, _)] (sub_cons rfl (sub_cons rfl (sub_cons rfl (sub_cons rfl (sub_nil _))))) ?_
  refine sr_nil (hK1 _ _ ?_)
  refine sc_seq fun K2 hK2 => ?_
  refine sc_seq fun K3 hK3 => ?_
  refine sc_text [1, 3] ?_
  refine sr_pure rfl (rc_call go_l05_awake ev_f (args_nil) rfl) (awake5_ok _ (hL.grow g) (hTx.grow g) (by have := g.size; omega)) (fun w11 g11 => ?_)
  have g := g.trans (g11)
  replace B4 := B4.grow (g11)
  replace B5 := B5.grow (g11)
  refine sr_pu rfl (fun _ => rd_not (ev_t rfl)) ?_
  refine sr_sub [(0, _, _), (4, _, _), (5, _, _), (6, _, _), (12, _, _)] (sub_cons rfl (sub_cons rfl (sub_cons rfl (sub_cons rfl (sub_cons rfl (sub_nil _)))))) ?_
  refine sr_nil (hK3 _ _ ?_)
  refine sc_false (ev_t rfl) ?_
  refine sc_skip (hK2 _ _ ?_)
  refine sc_sub [(0, _, _), (4, _, _), (5, _, _), (6, _, _)] (sub_cons rfl (sub_cons rfl (sub_cons rfl (sub_cons rfl (sub_nil _))))) ?_
  refine sc_seq fun K4 hK4 => ?_
  refine sc_text [3, 0, 0, 1, 3, 3, 3, 1, 2, 3] ?_
  refine sr_pu rfl (fun _ => rd_move (ev_t rfl)) ?_
  refine sr_rd rfl (rd_loads agg_api_Type (ev_t rfl) rfl (fun _ => B4.row)) ?_
  refine sr_rd rfl (rd_loads agg_api_Type (ev_t rfl) rfl (fun _ => B5.row)) ?_
  refine sr_pure rfl (rc_call go_types_Binary ev_f (args_cons (ev_t rfl) (args_cons (ev_t rfl) (args_cons (ev_t rfl) (args_nil)))) rfl) (tbin_ok _ _ _ _ (hL.grow g) (by have := g.size; omega)) (fun w17 g17 => ?_)
  have g := g.trans (g17)
  replace B4 := B4.grow (g17)
  replace B5 := B5.grow (g17)
  refine sr_pu rfl (fun _ => rd_move (ev_t rfl)) ?_
  refine sr_pu rfl (fun _ => rd_extract (ev_t rfl) rfl) ?_
  refine sr_pu rfl (fun _ => rd_extract (ev_t rfl) rfl) ?_
  refine sr_alloc rfl ze_api_Type rfl ?_
  intro b7 w7 N7
  have x7_4 := N7.ne B4
  have x7_5 := N7.ne B5
  have l7 := N7.ge g
  have g := g.trans (N7.g)
  replace B4 := B4.grow (N7.g)
  replace B5 := B5.grow (N7.g)
  have B7 := N7.blk
  refine sr_store_all rfl sz_api_Type (ev_t rfl) (ev_t rfl) rfl rfl B7 rfl rfl ?_
  intro wS1 hgS1 hzS1
  clear B7
  intro B7
  replace B4 := B4.keep hgS1 (by intro h; injection h with h; omega)
  replace B5 := B5.keep hgS1 (by intro h; injection h with h; omega)
  have g := g_only g hgS1 (by intro k hk; injection hk with hk; omega)
  refine sr_pu rfl (fun _ => rd_assign (ev_t rfl)) ?_
  refine sr_sub [(0, _, _), (4, _, _), (5, _, _), (6, _, _), (7, _, _), (8, _, _)] (sub_cons rfl (sub_cons rfl (sub_cons rfl (sub_cons rfl (sub_cons rfl (sub_cons rfl (sub_nil _))))))) ?_
  refine sr_nil (hK4 _ _ ?_)
  refine sc_seq fun K5 hK5 => ?_
  refine sc_text [3, 0, 0, 1, 3, 3, 3, 1, 2, 3] ?_
  refine sr_pu rfl (fun _ => rd_move (ev_t rfl)) ?_
  refine sr_rd rfl (rd_loads agg_api_Type (ev_t rfl) rfl (fun _ => B4.row)) ?_
  refine sr_rd rfl (rd_loads agg_api_Type (ev_t rfl) rfl (fun _ => B5.row)) ?_
  refine sr_pure rfl (rc_call go_r05_Binary ev_f (args_cons (ev_t rfl) (args_cons (ev_t rfl) (args_cons (ev_t rfl) (args_nil)))) rfl) (rbin_ok _ _ _ _) (fun w24 g24 => ?_)
  have g := g.trans (g24)
  replace B4 := B4.grow (g24)
  replace B5 := B5.grow (g24)
  replace B7 := B7.grow (g24)
  refine sr_pu rfl (fun _ => rd_move (ev_t rfl)) ?_
  refine sr_pu rfl (fun _ => rd_extract (ev_t rfl) rfl) ?_
  refine sr_pu rfl (fun _ => rd_extract (ev_t rfl) rfl) ?_
  refine sr_alloc rfl ze_api_Type rfl ?_
  intro b9 w9 N9
  have x9_4 := N9.ne B4
  have x9_5 := N9.ne B5
  have x9_7 := N9.ne B7
  have l9 := N9.ge g
  have g := g.trans (N9.g)
  replace B4 := B4.grow (N9.g)
  replace B5 := B5.grow (N9.g)
  replace B7 := B7.grow (N9.g)
  have B9 := N9.blk
  refine sr_store_all rfl sz_api_Type (ev_t rfl) (ev_t rfl) rfl rfl B9 rfl rfl ?_
  intro wS2 hgS2 hzS2
  clear B9
  intro B9
  replace B4 := B4.keep hgS2 (by intro h; injection h with h; omega)
  replace B5 := B5.keep hgS2 (by intro h; injection h with h; omega)
  replace B7 := B7.keep hgS2 (by intro h; injection h with h; omega)
  have g := g_only g hgS2 (by intro k hk; injection hk with hk; omega)
  refine sr_pu rfl (fun _ => rd_assign (ev_t rfl)) ?_
  refine sr_sub [(0, _, _), (6, _, _), (7, _, _), (8, _, _), (9, _, _), (10, _, _)] (sub_cons rfl (sub_cons rfl (sub_cons rfl (sub_cons rfl (sub_cons rfl (sub_cons rfl (sub_nil _))))))) ?_
  refine sr_nil (hK5 _ _ ?_)
  refine sc_seq fun K6 hK6 => ?_
  refine sc_seq fun K7 hK7 => ?_
  refine sc_text [0, 0, 3, 3, 3, 3, 3, 3] ?_
  refine sr_rd rfl (rd_loads agg_api_Type (ev_t rfl) rfl (fun _ => B7.row)) ?_
  refine sr_rd rfl (rd_loads agg_api_Type (ev_t rfl) rfl (fun _ => B9.row)) ?_
  refine sr_pu rfl (fun _ => rd_stne fl_api_Type (ev_t rfl) (ev_t rfl) rfl) ?_
  refine sr_pu rfl (fun _ => rd_move (ev_t rfl)) ?_
  refine sr_pug rfl rfl rfl (fun _ => rd_move (ev_t rfl)) ?_
  refine sr_pug rfl rfl rfl (fun _ => rd_move (ev_t rfl)) ?_
  refine sr_pug rfl rfl rfl (fun _ => rd_bne und_bool (ev_u rfl id) (ev_u rfl id)) ?_
  refine sr_pu rfl (fun _ => rd_pick_or (ev_t rfl) (ev_u rfl id)) ?_
  refine sr_sub [(0, _, _), (6, _, _), (7, _, _), (8, _, _), (34, _, _)] (sub_cons rfl (sub_cons rfl (sub_cons rfl (sub_cons rfl (sub_cons rfl (sub_nil _)))))) ?_
  refine sr_nil (hK7 _ _ ?_)
  refine sc_cond (ev_t rfl) (fun h2 => ?_) (fun h2 => ?_)
  · replace h2 : (!tyEqB (binT op a b).1 (binT op a b).1 || ((binT op a b).2 != (binT op a b).2)) = true := h2
    rw [tyEqB_refl] at h2; simp at h2
    done
  · replace h2 : (!tyEqB (binT op a b).1 (binT op a b).1 || ((binT op a b).2 != (binT op a b).2)) = false := h2
    refine sc_skip (hK6 _ _ ?_)
    refine sc_sub [(0, _, _), (6, _, _), (7, _, _), (8, _, _)] (sub_cons rfl (sub_cons rfl (sub_cons rfl (sub_cons rfl (sub_nil _))))) ?_
    refine sc_seq fun K8 hK8 => ?_
    refine sc_seq fun K9 hK9 => ?_
    refine sc_text [3, 3] ?_
    refine sr_pu rfl (fun _ => rd_move (ev_t rfl)) ?_
    refine sr_pu rfl (fun _ => rd_not (ev_t rfl)) ?_
    refine sr_sub [(0, _, _), (6, _, _), (7, _, _), (36, _, _)] (sub_cons rfl (sub_cons rfl (sub_cons rfl (sub_cons rfl (sub_nil _))))) ?_
    refine sr_nil (hK9 _ _ ?_)
    refine sc_cond (ev_t rfl) (fun h3 => ?_) (fun h3 => ?_)
    · (try simp only [bsimp] at h3)
      refine sc_seq fun K10 hK10 => ?_
      refine sc_text [0, 3, 3, 3] ?_
      refine sr_rd rfl (rd_loads agg_api_Type (ev_t rfl) rfl (fun _ => B7.row)) ?_
      refine sr_pu rfl (fun _ => rd_build [_, _] ze_api_Type rfl pl_api_Type (parts_nil) rfl) ?_
      refine sr_pu rfl (fun _ => rd_steq fl_api_Type (ev_t rfl) (ev_t rfl) rfl) ?_
      refine sr_pu rfl (fun _ => rd_assign (ev_t rfl)) ?_
      refine sr_sub [(0, _, _), (6, _, _), (7, _, _)] (sub_cons rfl (sub_cons rfl (sub_cons rfl (sub_nil _)))) ?_
      refine sr_nil (hK10 _ _ ?_)
      refine sc_ret (t_ret1 rfl rfl ?_)
      refine ⟨congrArg Value.bool ?_, g⟩
      rw [h3] at hlaw; exact hlaw
    · (try simp only [bsimp] at h3)
      refine sc_skip (hK8 _ _ ?_)
      refine sc_sub [(0, _, _), (6, _, _), (7, _, _)] (sub_cons rfl (sub_cons rfl (sub_cons rfl (sub_nil _)))) ?_
      refine sc_seq fun K11 hK11 => ?_
      refine sc_text [3, 1, 3, 0, 3, 3, 3, 0, 3, 3, 3, 3, 3] ?_
      refine sr_pu rfl (fun _ => rd_move (ev_t rfl)) ?_
      refine sr_pure rfl (rc_call go_r03_BinaryOp ev_f (args_cons (ev_t rfl) (args_nil)) rfl) (binop_ok _ _) (fun w41 g41 => ?_)
      have g := g.trans (g41)
      replace B4 := B4.grow (g41)
      replace B5 := B5.grow (g41)
      replace B7 := B7.grow (g41)
      replace B9 := B9.grow (g41)
      refine sr_pu rfl (fun _ => rd_move (ev_t rfl)) ?_
      refine sr_rdg rfl rfl rfl (rd_loads agg_api_Type (ev_t rfl) rfl (fun _ => B7.row)) ?_
      refine sr_pug rfl rfl rfl (fun _ => rd_build [_, _] ze_api_Type rfl pl_api_Type (parts_cons ev_c (parts_nil)) rfl) ?_
      refine sr_pug rfl rfl rfl (fun _ => rd_steq fl_api_Type (ev_u rfl id) (ev_u rfl id) rfl) ?_
      refine sr_pug rfl rfl rfl (fun _ => rd_move (ev_u rfl id)) ?_
      refine sr_rdg rfl rfl rfl (rd_loads agg_api_Type (ev_t rfl) rfl (fun _ => B7.row)) ?_
      refine sr_pug rfl rfl rfl (fun _ => rd_build [_, _] ze_api_Type rfl pl_api_Type (parts_cons ev_c (parts_nil)) rfl) ?_
      refine sr_pug rfl rfl rfl (fun _ => rd_steq fl_api_Type (ev_u rfl id) (ev_u rfl id) rfl) ?_
      refine sr_pug rfl rfl rfl (fun _ => rd_pick_or (ev_u rfl id) (ev_u rfl id)) ?_
      refine sr_pu rfl (fun _ => rd_pick_and (ev_t rfl) (ev_u rfl id)) ?_
      refine sr_pu rfl (fun _ => rd_assign (ev_t rfl)) ?_
      refine sr_sub [(6, _, _)] (sub_cons rfl (sub_nil _)) ?_
      refine sr_nil (hK11 _ _ ?_)
      refine sc_ret (t_ret1 rfl rfl ?_)
      refine ⟨congrArg Value.bool ?_, g⟩
      rw [h3] at hlaw; exact hlaw
theorem cond_le2 {b : Bool} {x y : List Ty × Ty × Bool} (h : x.1.length ≤ 2) (h' : y.1.length ≤ 2) : (bif b then x else y).1.length ≤ 2 := by cases b <;> assumption
theorem mth_len (y : Ty) (s : List UInt8) : (mthF y s).1.length ≤ 2 := by
  unfold mthF
  repeat (first | exact Nat.le_of_ble_eq_true rfl | apply cond_le2)
theorem mth_law {y : Ty} {s : List UInt8} (h : (mthF y s).2.2 = true) : valueB y = false ∧ 8 ≤ y.kind := by
  have hk : 8 ≤ y.kind := by
    unfold mthF at h
    cases h1 : (!validB y)
    · cases h2 : decide (y.kind = 8)
      · cases h3 : decide (y.kind = 9)
        · cases h4 : decide (y.kind = 10)
          · cases h5 : decide (y.kind = 11)
            · cases h6 : decide (y.kind = 12)
              · rw [h1, h2, h3, h4, h5, h6] at h; cases h
              · have := of_decide_eq_true h6; omega
            · have := of_decide_eq_true h5; omega
          · have := of_decide_eq_true h4; omega
        · have := of_decide_eq_true h3; omega
      · have := of_decide_eq_true h2; omega
    · rw [h1] at h; cases h
  refine ⟨?_, hk⟩
  have e1 : tyEqB y tInt = false := by
    rw [Bool.eq_false_iff]; intro e; rw [(tyEqB_iff _ _).1 e] at hk; exact absurd hk (by decide)
  have e2 : tyEqB y tBool = false := by
    rw [Bool.eq_false_iff]; intro e; rw [(tyEqB_iff _ _).1 e] at hk; exact absurd hk (by decide)
  unfold valueB refB
  have e3 : anyK [4, 5, 6, 7] y.kind = false := by
    simp only [anyK, Bool.or_eq_false_iff, decide_eq_false_iff_not]; omega
  rw [e1, e2, e3]; rfl
theorem methods_law (y : Ty) (s : List UInt8) (w : World) (hL : Laid w) (hTx : LaidT w) (hb3 : 4 ≤ w.heap.size) : Ret PP fn_l05_TypesMethods #[tyV y, Str s] w fun v w' => v = .bool true ∧ G w w' := by
  have g := G.refl w
  refine ret_of_sc (m := 53) func_l05_TypesMethods rfl rfl [(0, True, _), (1, True, _)] (sub_cons rfl (sub_cons rfl (sub_nil _))) ?_
  refine sc_seq fun K1 hK1 => ?_
  refine sc_text [1, 3] ?_
  refine sr_box rfl (ev_t rfl) rfl ?_
  intro b2 w2 N2
  have l2 := N2.ge g
  have g := g.trans (N2.g)
  have B2 := N2.blk
  refine sr_pu rfl (fun _ => rd_assign ev_c) ?_
  refine sr_sub [(1, _, _), (2, _, _), (4, _, _)] (sub_cons rfl (sub_cons rfl (sub_cons rfl (sub_nil _)))) ?_
  refine sr_nil (hK1 _ _ ?_)
  refine sc_seq fun K2 hK2 => ?_
  refine sc_seq fun K3 hK3 => ?_
  refine sc_text [1, 3] ?_
  refine sr_pure rfl (rc_call go_l05_awake ev_f (args_nil) rfl) (awake5_ok _ (hL.grow g) (hTx.grow g) (by have := g.size; omega)) (fun w11 g11 => ?_)
  have g := g.trans (g11)
  replace B2 := B2.grow (g11)
  refine sr_pu rfl (fun _ => rd_not (ev_t rfl)) ?_
  refine sr_sub [(1, _, _), (2, _, _), (4, _, _), (12, _, _)] (sub_cons rfl (sub_cons rfl (sub_cons rfl (sub_cons rfl (sub_nil _))))) ?_
  refine sr_nil (hK3 _ _ ?_)
  refine sc_false (ev_t rfl) ?_
  refine sc_skip (hK2 _ _ ?_)
  refine sc_sub [(1, _, _), (2, _, _), (4, _, _)] (sub_cons rfl (sub_cons rfl (sub_cons rfl (sub_nil _)))) ?_
  refine sc_seq fun K4 hK4 => ?_
  refine sc_text [0, 3, 1, 3, 3, 3, 3, 1, 3, 2, 3] ?_
  refine sr_rd rfl (rd_loads agg_api_Type (ev_t rfl) rfl (fun _ => B2.row)) ?_
  refine sr_pu rfl (fun _ => rd_move (ev_t rfl)) ?_
  refine sr_call rfl (rc_call go_types_Method ev_f (args_cons (ev_t rfl) (args_cons (ev_t rfl) (args_nil))) rfl) (tmth_ok y s _ (hL.grow g) (by have := g.size; omega)) ?_
  rintro v16 w16 ⟨⟨l1, rfl, hR1⟩, g16⟩
  refine ⟨fun _ => g16, ?_⟩
  have g := g.trans g16
  replace B2 := B2.grow (g16)
  have gm := G.refl w16
  refine sr_pu rfl (fun _ => rd_move (ev_t rfl)) ?_
  refine sr_pu rfl (fun _ => rd_extract (ev_t rfl) rfl) ?_
  refine sr_pu rfl (fun _ => rd_extract (ev_t rfl) rfl) ?_
  refine sr_pu rfl (fun _ => rd_extract (ev_t rfl) rfl) ?_
  refine sr_alloc rfl ze_api_Type rfl ?_
  intro b6 w6 N6
  have x6_2 := N6.ne B2
  have l6 := N6.ge g
  try have l6_gm := N6.ge gm
  have g := g.trans (N6.g)
  try have gm := gm.trans (N6.g)
  replace B2 := B2.grow (N6.g)
  have B6 := N6.blk
  refine sr_pu rfl (fun _ => rd_assign (ev_t rfl)) ?_
  refine sr_store_all rfl sz_api_Type (ev_t rfl) (ev_t rfl) rfl rfl B6 rfl rfl ?_
  intro wS1 hgS1 hzS1
  clear B6
  intro B6
  replace B2 := B2.keep hgS1 (by intro h; injection h with h; omega)
  have g := g_only g hgS1 (by intro k hk; injection hk with hk; omega)
  first | replace gm := g_only gm hgS1 (by intro k hk; injection hk with hk; omega) | clear gm | skip
  refine sr_pu rfl (fun _ => rd_assign (ev_t rfl)) ?_
  refine sr_sub [(1, _, _), (2, _, _), (4, _, _), (5, _, _), (6, _, _), (7, _, _)] (sub_cons rfl (sub_cons rfl (sub_cons rfl (sub_cons rfl (sub_cons rfl (sub_cons rfl (sub_nil _))))))) ?_
  refine sr_nil (hK4 _ _ ?_)
  refine sc_seq fun K5 hK5 => ?_
  refine sc_text [0, 3, 1, 3, 3, 3, 3, 1, 3, 2, 3] ?_
  refine sr_rd rfl (rd_loads agg_api_Type (ev_t rfl) rfl (fun _ => B2.row)) ?_
  refine sr_pu rfl (fun _ => rd_move (ev_t rfl)) ?_
  refine sr_call rfl (rc_call go_r05_Method ev_f (args_cons (ev_t rfl) (args_cons (ev_t rfl) (args_nil))) rfl) (rmth_ok y s _) ?_
  rintro v23 w23 ⟨⟨l2, rfl, hR2⟩, g23⟩
  refine ⟨fun _ => g23, ?_⟩
  have g := g.trans g23
  try have gm := gm.trans (g23)
  replace B2 := B2.grow (g23)
  replace B6 := B6.grow (g23)
  have gn := G.refl w23
  refine sr_pu rfl (fun _ => rd_move (ev_t rfl)) ?_
  refine sr_pu rfl (fun _ => rd_extract (ev_t rfl) rfl) ?_
  refine sr_pu rfl (fun _ => rd_extract (ev_t rfl) rfl) ?_
  refine sr_pu rfl (fun _ => rd_extract (ev_t rfl) rfl) ?_
  refine sr_alloc rfl ze_api_Type rfl ?_
  intro b9 w9 N9
  have x9_2 := N9.ne B2
  have x9_6 := N9.ne B6
  have l9 := N9.ge g
  try have l9_gm := N9.ge gm
  try have l9_gn := N9.ge gn
  have g := g.trans (N9.g)
  try have gm := gm.trans (N9.g)
  try have gn := gn.trans (N9.g)
  replace B2 := B2.grow (N9.g)
  replace B6 := B6.grow (N9.g)
  have B9 := N9.blk
  refine sr_pu rfl (fun _ => rd_assign (ev_t rfl)) ?_
  refine sr_store_all rfl sz_api_Type (ev_t rfl) (ev_t rfl) rfl rfl B9 rfl rfl ?_
  intro wS2 hgS2 hzS2
  clear B9
  intro B9
  replace B2 := B2.keep hgS2 (by intro h; injection h with h; omega)
  replace B6 := B6.keep hgS2 (by intro h; injection h with h; omega)
  have g := g_only g hgS2 (by intro k hk; injection hk with hk; omega)
  first | replace gm := g_only gm hgS2 (by intro k hk; injection hk with hk; omega) | clear gm | skip
  first | replace gn := g_only gn hgS2 (by intro k hk; injection hk with hk; omega) | clear gn | skip
  refine sr_pu rfl (fun _ => rd_assign (ev_t rfl)) ?_
  refine sr_sub [(2, _, _), (4, _, _), (5, _, _), (6, _, _), (7, _, _), (8, _, _), (9, _, _), (10, _, _)] (sub_cons rfl (sub_cons rfl (sub_cons rfl (sub_cons rfl (sub_cons rfl (sub_cons rfl (sub_cons rfl (sub_cons rfl (sub_nil _))))))))) ?_
  refine sr_nil (hK5 _ _ ?_)
  refine sc_seq fun K6 hK6 => ?_
  refine sc_seq fun K7 hK7 => ?_
  refine sc_text [3, 3, 3, 3, 0, 0, 3, 3, 3, 3, 3, 1, 3, 3] ?_
  refine sr_pu rfl (fun _ => rd_move (ev_t rfl)) ?_
  refine sr_pu rfl (fun _ => rd_move (ev_t rfl)) ?_
  refine sr_pu rfl (fun _ => rd_bne und_bool (ev_t rfl) (ev_t rfl)) ?_
  refine sr_pu rfl (fun _ => rd_move (ev_t rfl)) ?_
  refine sr_rdg rfl rfl rfl (rd_loads agg_api_Type (ev_t rfl) rfl (fun _ => B6.row)) ?_
  refine sr_rdg rfl rfl rfl (rd_loads agg_api_Type (ev_t rfl) rfl (fun _ => B9.row)) ?_
  refine sr_pug rfl rfl rfl (fun _ => rd_stne fl_api_Type (ev_u rfl id) (ev_u rfl id) rfl) ?_
  refine sr_pu rfl (fun _ => rd_pick_or (ev_t rfl) (ev_u rfl id)) ?_
  refine sr_pu rfl (fun _ => rd_move (ev_t rfl)) ?_
  refine sr_pug rfl rfl rfl (fun _ => rd_move (ev_t rfl)) ?_
  refine sr_pug rfl rfl rfl (fun _ => rd_move (ev_t rfl)) ?_
  refine sr_pureg rfl rfl rfl (fun _ => (rc_call go_r05_SameTypes ev_f (args_cons (ev_u rfl id) (args_cons (ev_u rfl id) (args_nil))) rfl)) (fun hc => sametypes_ok (mthF y s).1 (mthF y s).1 _ _ _ (hR1.grow gm) (hR2.grow gn) (by have := mth_len y s; omega)) (fun w38 g38 => ?_)
  have g := g.trans (g38)
  try have gm := gm.trans (g38)
  try have gn := gn.trans (g38)
  replace B2 := B2.grow (g38)
  replace B6 := B6.grow (g38)
  replace B9 := B9.grow (g38)
  refine sr_pug rfl rfl rfl (fun _ => rd_not (ev_u rfl id)) ?_
  refine sr_pu rfl (fun _ => rd_pick_or (ev_t rfl) (ev_u rfl id)) ?_
  refine sr_sub [(2, _, _), (4, _, _), (7, _, _), (40, _, _)] (sub_cons rfl (sub_cons rfl (sub_cons rfl (sub_cons rfl (sub_nil _))))) ?_
  refine sr_nil (hK7 _ _ ?_)
  refine sc_cond (ev_t rfl) (fun h2 => ?_) (fun h2 => ?_)
  · replace h2 : ((((mthF y s).2.2 != (mthF y s).2.2) || !tyEqB (mthF y s).2.1 (mthF y s).2.1) || !sameTy (mthF y s).1 (mthF y s).1) = true := h2
    rw [tyEqB_refl, sameTy_refl] at h2; simp at h2
    done
  · replace h2 : ((((mthF y s).2.2 != (mthF y s).2.2) || !tyEqB (mthF y s).2.1 (mthF y s).2.1) || !sameTy (mthF y s).1 (mthF y s).1) = false := h2
    refine sc_skip (hK6 _ _ ?_)
    refine sc_sub [(2, _, _), (4, _, _), (7, _, _)] (sub_cons rfl (sub_cons rfl (sub_cons rfl (sub_nil _)))) ?_
    refine sc_seq fun K8 hK8 => ?_
    refine sc_text [3, 3, 3, 0, 1, 3, 3, 3, 0, 3, 3, 3, 3] ?_
    refine sr_pu rfl (fun _ => rd_move (ev_t rfl)) ?_
    refine sr_pu rfl (fun _ => rd_not (ev_t rfl)) ?_
    refine sr_pu rfl (fun _ => rd_move (ev_t rfl)) ?_
    refine sr_rdg rfl rfl rfl (rd_loads agg_api_Type (ev_t rfl) rfl (fun _ => B2.row)) ?_
    refine sr_pureg rfl rfl rfl (fun _ => (rc_call go_types_Value ev_f (args_cons (ev_u rfl id) (args_nil)) rfl)) (fun hc => tvalue_ok _ _ (hL.grow g) (by have := g.size; omega)) (fun w45 g45 => ?_)
    have g := g.trans (g45)
    try have gm := gm.trans (g45)
    try have gn := gn.trans (g45)
    replace B2 := B2.grow (g45)
    replace B6 := B6.grow (g45)
    replace B9 := B9.grow (g45)
    refine sr_pug rfl rfl rfl (fun _ => rd_not (ev_u rfl id)) ?_
    refine sr_pug rfl rfl rfl (fun _ => rd_move (ev_u rfl id)) ?_
    refine sr_pug rfl rfl rfl (fun _ => rd_field fo_api_Type_0 (ev_t rfl)) ?_
    refine sr_rdg rfl rfl rfl (rd_load one_int (ev_u rfl id) (fun _ => B2.at_ rfl)) ?_
    refine sr_pug rfl rfl rfl (fun _ => rd_ge (ev_u rfl id) ev_c) ?_
    refine sr_pug rfl rfl rfl (fun _ => rd_pick_and (ev_u rfl id) (ev_u rfl id)) ?_
    refine sr_pu rfl (fun _ => rd_pick_or (ev_t rfl) (ev_u rfl id)) ?_
    refine sr_pu rfl (fun _ => rd_assign (ev_t rfl)) ?_
    refine sr_sub [(4, _, _)] (sub_cons rfl (sub_nil _)) ?_
    refine sr_nil (hK8 _ _ ?_)
    refine sc_ret (t_ret1 rfl rfl ?_)
    refine ⟨congrArg Value.bool ?_, g⟩
    cases h : (mthF y s).2.2
    · rfl
    · obtain ⟨h1, h2⟩ := mth_law h
      rw [h1, decide_eq_true h2]; rfl
end Go.Rk
