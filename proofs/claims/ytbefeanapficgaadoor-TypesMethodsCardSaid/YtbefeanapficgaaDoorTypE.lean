/- The types: methods. Conditions: what start-up laid. -/
import Derived.Test.YtbefeanapficgaaDoorTypD
import Derived.Test.YtbefeanapficgaaDoorRowF
namespace Go.Rk
open Go Go.RowKit
theorem tyCells_length (y : Ty) : (tyCells y).length = 2 := rfl
def lockB (s : List UInt8) : Bool := decide (s = [76, 111, 99, 107]) || decide (s = [85, 110, 108, 111, 99, 107])
def mthF (y : Ty) (s : List UInt8) : List Ty × Ty × Bool :=
  bif !validB y then ([], ty0, false)
  else bif decide (y.kind = 8) then ([], ty0, lockB s)
  else bif decide (y.kind = 9) then ([], ty0, (lockB s || decide (s = [82, 76, 111, 99, 107])) || decide (s = [82, 85, 110, 108, 111, 99, 107]))
  else bif decide (y.kind = 10) then (bif decide (s = [65, 100, 100]) then ([tInt], ty0, true) else ([], ty0, decide (s = [68, 111, 110, 101]) || decide (s = [87, 97, 105, 116])))
  else bif decide (y.kind = 11) then (bif decide (s = [68, 111]) then ([tFunc], ty0, true) else ([], ty0, false))
  else bif decide (y.kind = 12) then (bif decide (s = [76, 111, 97, 100]) then ([], tInt, true) else bif decide (s = [83, 116, 111, 114, 101]) then ([tInt], ty0, true) else bif decide (s = [65, 100, 100]) then ([tInt], tInt, true) else bif decide (s = [67, 111, 109, 112, 97, 114, 101, 65, 110, 100, 83, 119, 97, 112]) then ([tInt, tInt], tBool, true) else ([], ty0, false))
  else ([], ty0, false)
/-- What a method's types come back as. -/
def MthV (r : List Ty × Ty × Bool) (v : Value) (w : World) : Prop := ∃ l, v = .tuple #[l, tyV r.2.1, .bool r.2.2] ∧ RowF tyCells w r.1 l
theorem mth_nil {y : Ty} {b : Bool} {w : World} : MthV ([], y, b) (.tuple #[.slice none 0 0, tyV y, .bool b]) w := ⟨_, rfl, rowf_nil w⟩
theorem mth_one {y z : Ty} {b : Bool} {w : World} {k c : Nat} {xs : List Value} (h : Blk w k ty_api_Type xs) (hx : xs = tyCells z) (hc : 1 ≤ c) : MthV ([z], y, b) (.tuple #[.slice (some ⟨k, 0, none⟩) 1 c, tyV y, .bool b]) w := ⟨_, rfl, rowf_blk (l := [z]) h hx hc⟩
set_option maxHeartbeats 1000000 in
theorem tmth_ok (y : Ty) (s : List UInt8) (w : World) (hL : Laid w) (hb3 : 4 ≤ w.heap.size) : Ret PP fn_types_Method #[tyV y, Str s] w fun v w' => MthV (mthF y s) v w' ∧ G w w' := by
  have g := G.refl w
  refine ret_of_sc (m := 86) func_types_Method rfl rfl [(0, True, _), (1, True, _)] (sub_cons rfl (sub_cons rfl (sub_nil _))) ?_
  refine sc_seq fun K1 hK1 => ?_
  refine sc_text [1, 3, 1, 3] ?_
  refine sr_box rfl (ev_t rfl) rfl ?_
  intro b2 w2 N2
  have l2 := N2.ge g
  have g := g.trans (N2.g)
  have B2 := N2.blk
  refine sr_pu rfl (fun _ => rd_assign ev_c) ?_
  refine sr_alloc rfl ze_api_Type rfl ?_
  intro b5 w5 N5
  have x5_2 := N5.ne B2
  have l5 := N5.ge g
  have g := g.trans (N5.g)
  replace B2 := B2.grow (N5.g)
  have B5 := N5.blk
  refine sr_pu rfl (fun _ => rd_assign ev_c) ?_
  refine sr_sub [(1, _, _), (2, _, _), (4, _, _), (5, _, _), (6, _, _)] (sub_cons rfl (sub_cons rfl (sub_cons rfl (sub_cons rfl (sub_cons rfl (sub_nil _)))))) ?_
  refine sr_nil (hK1 _ _ ?_)
  refine sc_seq fun K2 hK2 => ?_
  refine sc_text [1] ?_
  refine sr_alloc rfl ze_api_Type rfl ?_
  intro b7 w7 N7
  have x7_2 := N7.ne B2
  have x7_5 := N7.ne B5
  have l7 := N7.ge g
  have g := g.trans (N7.g)
  replace B2 := B2.grow (N7.g)
  replace B5 := B5.grow (N7.g)
  have B7 := N7.blk
  refine sr_nil (hK2 _ _ ?_)
  refine sc_seq fun K3 hK3 => ?_
  refine sc_seq fun K4 hK4 => ?_
  refine sc_text [0, 1, 3] ?_
  refine sr_rd rfl (rd_loads agg_api_Type (ev_t rfl) rfl (fun _ => B2.row)) ?_
  refine sr_pure rfl (rc_call go_types_valid ev_f (args_cons (ev_t rfl) (args_nil)) rfl) (tvalid_ok _ _ (hL.grow g) (by have := g.size; omega)) (fun w10 g10 => ?_)
  have g := g.trans (g10)
  replace B2 := B2.grow (g10)
  replace B5 := B5.grow (g10)
  replace B7 := B7.grow (g10)
  refine sr_pu rfl (fun _ => rd_not (ev_t rfl)) ?_
  refine sr_sub [(1, _, _), (2, _, _), (4, _, _), (5, _, _), (6, _, _), (7, _, _), (11, _, _)] (sub_cons rfl (sub_cons rfl (sub_cons rfl (sub_cons rfl (sub_cons rfl (sub_cons rfl (sub_cons rfl (sub_nil _)))))))) ?_
  refine sr_nil (hK4 _ _ ?_)
  refine sc_cond (ev_t rfl) (fun h1 => ?_) (fun h1 => ?_)
  · (try simp only [bsimp] at h1)
    refine sc_seq fun K5 hK5 => ?_
    refine sc_draw [0, 3, 2, 3] [true, true, true, true] [0, 0, 3, 7] mix (by kernel_rfl) ?_
    have g := g.trans (G.drew _)
    replace B2 := B2.grow (G.drew _)
    replace B5 := B5.grow (G.drew _)
    replace B7 := B7.grow (G.drew _)
    refine sr_rd rfl (rd_loads agg_api_Type (ev_t rfl) rfl (fun _ => B7.row)) ?_
    refine sr_pu rfl (fun _ => rd_assign ev_c) ?_
    refine sr_store_all rfl sz_api_Type (ev_t rfl) (ev_t rfl) rfl rfl B5 rfl rfl ?_
    intro wS1 hgS1 hzS1
    clear B5
    intro B5
    replace B2 := B2.keep hgS1 (by intro h; injection h with h; omega)
    replace B7 := B7.keep hgS1 (by intro h; injection h with h; omega)
    have g := g_only g hgS1 (by intro k hk; injection hk with hk; omega)
    refine sr_pu rfl (fun _ => rd_assign ev_c) ?_
    refine sr_sub [(1, _, _), (2, _, _), (4, _, _), (5, _, _), (6, _, _), (7, _, _)] (sub_cons rfl (sub_cons rfl (sub_cons rfl (sub_cons rfl (sub_cons rfl (sub_cons rfl (sub_nil _))))))) ?_
    refine sr_nil (hK5 _ _ ?_)
    refine sc_ret (t_retv (rs := [.tmp 4, .cell 5 23, .tmp 6]) (vs := [_, _, _]) rfl rfl (evr_t rfl (evr_c rfl agg_api_Type rfl (by first | exact B2.row | exact B5.row | exact B7.row) (evr_t rfl (evr_nil)))) rfl ?_)
    refine ⟨?_, g⟩
    unfold mthF
    simp only [lockB, h1, cond_true, cond_false]
    first
    | exact ⟨_, rfl, rowf_nil _⟩
    | exact ⟨_, rfl, rowf_blk (l := [_]) (by assumption) rfl (by decide)⟩
    | exact ⟨_, rfl, rowf_blk (l := [_, _]) (by assumption) rfl (by decide)⟩
  · (try simp only [bsimp] at h1)
    refine sc_skip (hK3 _ _ ?_)
    refine sc_sub [(1, _, _), (2, _, _), (4, _, _), (5, _, _), (6, _, _), (7, _, _)] (sub_cons rfl (sub_cons rfl (sub_cons rfl (sub_cons rfl (sub_cons rfl (sub_cons rfl (sub_nil _))))))) ?_
    refine sc_seq fun K6 hK6 => ?_
    refine sc_text [3, 1, 2] ?_
    refine sr_pu rfl (fun _ => rd_build [_, _] ze_api_Type rfl pl_api_Type (parts_cons ev_c (parts_nil)) rfl) ?_
    refine sr_alloc rfl ze_api_Type rfl ?_
    intro b8 w8 N8
    have x8_2 := N8.ne B2
    have x8_5 := N8.ne B5
    have x8_7 := N8.ne B7
    have l8 := N8.ge g
    have g := g.trans (N8.g)
    replace B2 := B2.grow (N8.g)
    replace B5 := B5.grow (N8.g)
    replace B7 := B7.grow (N8.g)
    have B8 := N8.blk
    refine sr_store_all rfl sz_api_Type (ev_t rfl) (ev_t rfl) rfl rfl B8 rfl rfl ?_
    intro wS2 hgS2 hzS2
    clear B8
    intro B8
    replace B2 := B2.keep hgS2 (by intro h; injection h with h; omega)
    replace B5 := B5.keep hgS2 (by intro h; injection h with h; omega)
    replace B7 := B7.keep hgS2 (by intro h; injection h with h; omega)
    have g := g_only g hgS2 (by intro k hk; injection hk with hk; omega)
    refine sr_sub [(1, _, _), (2, _, _), (4, _, _), (5, _, _), (6, _, _), (7, _, _), (8, _, _)] (sub_cons rfl (sub_cons rfl (sub_cons rfl (sub_cons rfl (sub_cons rfl (sub_cons rfl (sub_cons rfl (sub_nil _)))))))) ?_
    refine sr_nil (hK6 _ _ ?_)
    refine sc_seq fun K7 hK7 => ?_
    refine sc_seq fun K8 hK8 => ?_
    refine sc_text [3, 0] ?_
    refine sr_pu rfl (fun _ => rd_field fo_api_Type_0 (ev_t rfl)) ?_
    refine sr_rd rfl (rd_load one_int (ev_t rfl) (fun _ => B2.at_ rfl)) ?_
    refine sr_sub [(1, _, _), (4, _, _), (5, _, _), (6, _, _), (7, _, _), (8, _, _), (15, _, _)] (sub_cons rfl (sub_cons rfl (sub_cons rfl (sub_cons rfl (sub_cons rfl (sub_cons rfl (sub_cons rfl (sub_nil _)))))))) ?_
    refine sr_nil (hK8 _ _ ?_)
    refine sc_block ?_
    refine sc_seq fun K9 hK9 => ?_
    refine sc_text [3, 3] ?_
    refine sr_pu rfl (fun _ => rd_eq (ev_t rfl) ev_c) ?_
    refine sr_pu rfl (fun _ => rd_assign (ev_t rfl)) ?_
    refine sr_sub [(1, _, _), (4, _, _), (5, _, _), (6, _, _), (7, _, _), (8, _, _), (15, _, _), (16, _, _)] (sub_cons rfl (sub_cons rfl (sub_cons rfl (sub_cons rfl (sub_cons rfl (sub_cons rfl (sub_cons rfl (sub_cons rfl (sub_nil _))))))))) ?_
    refine sr_nil (hK9 _ _ ?_)
    refine sc_cond (ev_t rfl) (fun h2 => ?_) (fun h2 => ?_)
    · (try simp only [bsimp] at h2)
      refine sc_seq fun K10 hK10 => ?_
      refine sc_draw [0, 3, 3, 3, 3, 3, 3, 3, 2, 3] [true, true, true, true, true, true, true, true, true, true] [0, 0, 2, 6, 14, 30, 62, 14, 143, 511] mix (by kernel_rfl) ?_
      have g := g.trans (G.drew _)
      replace B2 := B2.grow (G.drew _)
      replace B5 := B5.grow (G.drew _)
      replace B7 := B7.grow (G.drew _)
      replace B8 := B8.grow (G.drew _)
      refine sr_rd rfl (rd_loads agg_api_Type (ev_t rfl) rfl (fun _ => B7.row)) ?_
      refine sr_pu rfl (fun _ => rd_move (ev_t rfl)) ?_
      refine sr_pu rfl (fun _ => rd_seq (ev_t rfl) ev_c) ?_
      refine sr_pu rfl (fun _ => rd_move (ev_t rfl)) ?_
      refine sr_pug rfl rfl rfl (fun _ => rd_move (ev_t rfl)) ?_
      refine sr_pug rfl rfl rfl (fun _ => rd_seq (ev_u rfl id) ev_c) ?_
      refine sr_pu rfl (fun _ => rd_pick_or (ev_t rfl) (ev_u rfl id)) ?_
      refine sr_pu rfl (fun _ => rd_assign ev_c) ?_
      refine sr_store_all rfl sz_api_Type (ev_t rfl) (ev_t rfl) rfl rfl B5 rfl rfl ?_
      intro wS3 hgS3 hzS3
      clear B5
      intro B5
      replace B2 := B2.keep hgS3 (by intro h; injection h with h; omega)
      replace B7 := B7.keep hgS3 (by intro h; injection h with h; omega)
      replace B8 := B8.keep hgS3 (by intro h; injection h with h; omega)
      have g := g_only g hgS3 (by intro k hk; injection hk with hk; omega)
      refine sr_pu rfl (fun _ => rd_assign (ev_t rfl)) ?_
      refine sr_sub [(4, _, _), (5, _, _), (6, _, _), (7, _, _)] (sub_cons rfl (sub_cons rfl (sub_cons rfl (sub_cons rfl (sub_nil _))))) ?_
      refine sr_nil (hK10 _ _ ?_)
      refine sc_ret (t_retv (rs := [.tmp 4, .cell 5 23, .tmp 6]) (vs := [_, _, _]) rfl rfl (evr_t rfl (evr_c rfl agg_api_Type rfl (by first | exact B2.row | exact B5.row | exact B7.row | exact B8.row) (evr_t rfl (evr_nil)))) rfl ?_)
      refine ⟨?_, g⟩
      unfold mthF
      simp only [lockB, h1, h2, cond_true, cond_false]
      first
      | exact ⟨_, rfl, rowf_nil _⟩
      | exact ⟨_, rfl, rowf_blk (l := [_]) (by assumption) rfl (by decide)⟩
      | exact ⟨_, rfl, rowf_blk (l := [_, _]) (by assumption) rfl (by decide)⟩
    · (try simp only [bsimp] at h2)
      refine sc_seq fun K11 hK11 => ?_
      refine sc_text [3, 3] ?_
      refine sr_pu rfl (fun _ => rd_eq (ev_t rfl) ev_c) ?_
      refine sr_pu rfl (fun _ => rd_assign (ev_t rfl)) ?_
      refine sr_sub [(1, _, _), (4, _, _), (5, _, _), (6, _, _), (7, _, _), (8, _, _), (15, _, _), (25, _, _)] (sub_cons rfl (sub_cons rfl (sub_cons rfl (sub_cons rfl (sub_cons rfl (sub_cons rfl (sub_cons rfl (sub_cons rfl (sub_nil _))))))))) ?_
      refine sr_nil (hK11 _ _ ?_)
      refine sc_cond (ev_t rfl) (fun h3 => ?_) (fun h3 => ?_)
      · (try simp only [bsimp] at h3)
        refine sc_seq fun K12 hK12 => ?_
        refine sc_draw [0, 3, 3, 3, 3, 3, 3, 3, 3, 3, 3, 3, 3, 3, 3, 3, 2, 3] [true, true, true, true, true, true, true, true, true, true, true, true, true, true, true, true, true, true] [0, 0, 2, 6, 14, 30, 62, 126, 254, 510, 1022, 2046, 4094, 8190, 16382, 4094, 36863, 131071] mix (by kernel_rfl) ?_
        have g := g.trans (G.drew _)
        replace B2 := B2.grow (G.drew _)
        replace B5 := B5.grow (G.drew _)
        replace B7 := B7.grow (G.drew _)
        replace B8 := B8.grow (G.drew _)
        refine sr_rd rfl (rd_loads agg_api_Type (ev_t rfl) rfl (fun _ => B7.row)) ?_
        refine sr_pu rfl (fun _ => rd_move (ev_t rfl)) ?_
        refine sr_pu rfl (fun _ => rd_seq (ev_t rfl) ev_c) ?_
        refine sr_pu rfl (fun _ => rd_move (ev_t rfl)) ?_
        refine sr_pug rfl rfl rfl (fun _ => rd_move (ev_t rfl)) ?_
        refine sr_pug rfl rfl rfl (fun _ => rd_seq (ev_u rfl id) ev_c) ?_
        refine sr_pu rfl (fun _ => rd_pick_or (ev_t rfl) (ev_u rfl id)) ?_
        refine sr_pu rfl (fun _ => rd_move (ev_t rfl)) ?_
        refine sr_pug rfl rfl rfl (fun _ => rd_move (ev_t rfl)) ?_
        refine sr_pug rfl rfl rfl (fun _ => rd_seq (ev_u rfl id) ev_c) ?_
        refine sr_pu rfl (fun _ => rd_pick_or (ev_t rfl) (ev_u rfl id)) ?_
        refine sr_pu rfl (fun _ => rd_move (ev_t rfl)) ?_
        refine sr_pug rfl rfl rfl (fun _ => rd_move (ev_t rfl)) ?_
        refine sr_pug rfl rfl rfl (fun _ => rd_seq (ev_u rfl id) ev_c) ?_
        refine sr_pu rfl (fun _ => rd_pick_or (ev_t rfl) (ev_u rfl id)) ?_
        refine sr_pu rfl (fun _ => rd_assign ev_c) ?_
        refine sr_store_all rfl sz_api_Type (ev_t rfl) (ev_t rfl) rfl rfl B5 rfl rfl ?_
        intro wS4 hgS4 hzS4
        clear B5
        intro B5
        replace B2 := B2.keep hgS4 (by intro h; injection h with h; omega)
        replace B7 := B7.keep hgS4 (by intro h; injection h with h; omega)
        replace B8 := B8.keep hgS4 (by intro h; injection h with h; omega)
        have g := g_only g hgS4 (by intro k hk; injection hk with hk; omega)
        refine sr_pu rfl (fun _ => rd_assign (ev_t rfl)) ?_
        refine sr_sub [(4, _, _), (5, _, _), (6, _, _), (7, _, _)] (sub_cons rfl (sub_cons rfl (sub_cons rfl (sub_cons rfl (sub_nil _))))) ?_
        refine sr_nil (hK12 _ _ ?_)
        refine sc_ret (t_retv (rs := [.tmp 4, .cell 5 23, .tmp 6]) (vs := [_, _, _]) rfl rfl (evr_t rfl (evr_c rfl agg_api_Type rfl (by first | exact B2.row | exact B5.row | exact B7.row | exact B8.row) (evr_t rfl (evr_nil)))) rfl ?_)
        refine ⟨?_, g⟩
        unfold mthF
        simp only [lockB, h1, h2, h3, cond_true, cond_false]
        first
        | exact ⟨_, rfl, rowf_nil _⟩
        | exact ⟨_, rfl, rowf_blk (l := [_]) (by assumption) rfl (by decide)⟩
        | exact ⟨_, rfl, rowf_blk (l := [_, _]) (by assumption) rfl (by decide)⟩
      · (try simp only [bsimp] at h3)
        refine sc_seq fun K13 hK13 => ?_
        refine sc_text [3, 3] ?_
        refine sr_pu rfl (fun _ => rd_eq (ev_t rfl) ev_c) ?_
        refine sr_pu rfl (fun _ => rd_assign (ev_t rfl)) ?_
        refine sr_sub [(1, _, _), (4, _, _), (5, _, _), (6, _, _), (7, _, _), (8, _, _), (15, _, _), (42, _, _)] (sub_cons rfl (sub_cons rfl (sub_cons rfl (sub_cons rfl (sub_cons rfl (sub_cons rfl (sub_cons rfl (sub_cons rfl (sub_nil _))))))))) ?_
        refine sr_nil (hK13 _ _ ?_)
        refine sc_cond (ev_t rfl) (fun h4 => ?_) (fun h4 => ?_)
        · (try simp only [bsimp] at h4)
          refine sc_seq fun K14 hK14 => ?_
          refine sc_seq fun K15 hK15 => ?_
          refine sc_text [3, 3] ?_
          refine sr_pu rfl (fun _ => rd_move (ev_t rfl)) ?_
          refine sr_pu rfl (fun _ => rd_seq (ev_t rfl) ev_c) ?_
          refine sr_sub [(1, _, _), (4, _, _), (5, _, _), (6, _, _), (7, _, _), (8, _, _), (45, _, _)] (sub_cons rfl (sub_cons rfl (sub_cons rfl (sub_cons rfl (sub_cons rfl (sub_cons rfl (sub_cons rfl (sub_nil _)))))))) ?_
          refine sr_nil (hK15 _ _ ?_)
          refine sc_cond (ev_t rfl) (fun h5 => ?_) (fun h5 => ?_)
          · (try simp only [bsimp] at h5)
            refine sc_seq fun K16 hK16 => ?_
            skip
            refine sc_draw [0, 1, 0, 3, 2, 3] [true, true, false, true, true, true] [0, 1, 0, 3, 15, 31] mix (by kernel_rfl) ?_
            have g := g.trans (G.drew _)
            replace B2 := B2.grow (G.drew _)
            replace B5 := B5.grow (G.drew _)
            replace B7 := B7.grow (G.drew _)
            replace B8 := B8.grow (G.drew _)
            have C2 := B2
            have C5 := B5
            have C7 := B7
            have C8 := B8
            refine sr_rd rfl (rd_loads agg_api_Type (ev_t rfl) rfl (fun _ => B8.row)) ?_
            refine sr_buildSlice [_, _] rfl el_sl_api_Type ze_api_Type (parts_cons (ev_t rfl) (parts_nil)) rfl rfl ?_
            intro b47 w47 N47
            have x47_2 := N47.ne B2
            have x47_5 := N47.ne B5
            have x47_7 := N47.ne B7
            have x47_8 := N47.ne B8
            have l47 := N47.ge g
            have g := g.trans (N47.g)
            replace B2 := B2.grow (N47.g)
            replace B5 := B5.grow (N47.g)
            replace B7 := B7.grow (N47.g)
            replace B8 := B8.grow (N47.g)
            have B47 := N47.blk
            refine sr_rd0 rfl (rd_loads agg_api_Type (ev_t rfl) rfl (fun _ => C7.row)) ?_
            refine sr_pu rfl (fun _ => rd_assign (ev_t rfl)) ?_
            refine sr_store_all rfl sz_api_Type (ev_t rfl) (ev_t rfl) rfl rfl B5 rfl rfl ?_
            intro wS5 hgS5 hzS5
            clear B5
            intro B5
            replace B2 := B2.keep hgS5 (by intro h; injection h with h; omega)
            replace B7 := B7.keep hgS5 (by intro h; injection h with h; omega)
            replace B8 := B8.keep hgS5 (by intro h; injection h with h; omega)
            replace B47 := B47.keep hgS5 (by intro h; injection h with h; omega)
            have g := g_only g hgS5 (by intro k hk; injection hk with hk; omega)
            refine sr_pu rfl (fun _ => rd_assign ev_c) ?_
            refine sr_sub [(1, _, _), (4, _, _), (5, _, _), (6, _, _), (7, _, _)] (sub_cons rfl (sub_cons rfl (sub_cons rfl (sub_cons rfl (sub_cons rfl (sub_nil _)))))) ?_
            refine sr_nil (hK16 _ _ ?_)
            refine sc_ret (t_retv (rs := [.tmp 4, .cell 5 23, .tmp 6]) (vs := [_, _, _]) rfl rfl (evr_t rfl (evr_c rfl agg_api_Type rfl (by first | exact B2.row | exact B5.row | exact B7.row | exact B8.row | exact B47.row) (evr_t rfl (evr_nil)))) rfl ?_)
            refine ⟨?_, g⟩
            unfold mthF
            simp only [lockB, h1, h2, h3, h4, h5, cond_true, cond_false]
            first
            | exact ⟨_, rfl, rowf_nil _⟩
            | exact ⟨_, rfl, rowf_blk (l := [_]) (by assumption) rfl (by decide)⟩
            | exact ⟨_, rfl, rowf_blk (l := [_, _]) (by assumption) rfl (by decide)⟩
          · (try simp only [bsimp] at h5)
            refine sc_skip (hK14 _ _ ?_)
            refine sc_sub [(1, _, _), (4, _, _), (5, _, _), (6, _, _), (7, _, _)] (sub_cons rfl (sub_cons rfl (sub_cons rfl (sub_cons rfl (sub_cons rfl (sub_nil _)))))) ?_
            refine sc_seq fun K17 hK17 => ?_
            refine sc_draw [0, 3, 3, 3, 3, 3, 3, 3, 2, 3] [true, true, true, true, true, true, true, true, true, true] [0, 0, 2, 6, 14, 30, 62, 14, 143, 511] mix (by kernel_rfl) ?_
            have g := g.trans (G.drew _)
            replace B2 := B2.grow (G.drew _)
            replace B5 := B5.grow (G.drew _)
            replace B7 := B7.grow (G.drew _)
            replace B8 := B8.grow (G.drew _)
            refine sr_rd rfl (rd_loads agg_api_Type (ev_t rfl) rfl (fun _ => B7.row)) ?_
            refine sr_pu rfl (fun _ => rd_move (ev_t rfl)) ?_
            refine sr_pu rfl (fun _ => rd_seq (ev_t rfl) ev_c) ?_
            refine sr_pu rfl (fun _ => rd_move (ev_t rfl)) ?_
            refine sr_pug rfl rfl rfl (fun _ => rd_move (ev_t rfl)) ?_
            refine sr_pug rfl rfl rfl (fun _ => rd_seq (ev_u rfl id) ev_c) ?_
            refine sr_pu rfl (fun _ => rd_pick_or (ev_t rfl) (ev_u rfl id)) ?_
            refine sr_pu rfl (fun _ => rd_assign ev_c) ?_
            refine sr_store_all rfl sz_api_Type (ev_t rfl) (ev_t rfl) rfl rfl B5 rfl rfl ?_
            intro wS6 hgS6 hzS6
            clear B5
            intro B5
            replace B2 := B2.keep hgS6 (by intro h; injection h with h; omega)
            replace B7 := B7.keep hgS6 (by intro h; injection h with h; omega)
            replace B8 := B8.keep hgS6 (by intro h; injection h with h; omega)
            have g := g_only g hgS6 (by intro k hk; injection hk with hk; omega)
            refine sr_pu rfl (fun _ => rd_assign (ev_t rfl)) ?_
            refine sr_sub [(4, _, _), (5, _, _), (6, _, _), (7, _, _)] (sub_cons rfl (sub_cons rfl (sub_cons rfl (sub_cons rfl (sub_nil _))))) ?_
            refine sr_nil (hK17 _ _ ?_)
            refine sc_ret (t_retv (rs := [.tmp 4, .cell 5 23, .tmp 6]) (vs := [_, _, _]) rfl rfl (evr_t rfl (evr_c rfl agg_api_Type rfl (by first | exact B2.row | exact B5.row | exact B7.row | exact B8.row) (evr_t rfl (evr_nil)))) rfl ?_)
            refine ⟨?_, g⟩
            unfold mthF
            simp only [lockB, h1, h2, h3, h4, h5, cond_true, cond_false]
            first
            | exact ⟨_, rfl, rowf_nil _⟩
            | exact ⟨_, rfl, rowf_blk (l := [_]) (by assumption) rfl (by decide)⟩
            | exact ⟨_, rfl, rowf_blk (l := [_, _]) (by assumption) rfl (by decide)⟩
        · (try simp only [bsimp] at h4)
          refine sc_seq fun K18 hK18 => ?_
          refine sc_text [3, 3] ?_
          refine sr_pu rfl (fun _ => rd_eq (ev_t rfl) ev_c) ?_
          refine sr_pu rfl (fun _ => rd_assign (ev_t rfl)) ?_
          refine sr_sub [(1, _, _), (4, _, _), (5, _, _), (6, _, _), (7, _, _), (8, _, _), (15, _, _), (56, _, _)] (sub_cons rfl (sub_cons rfl (sub_cons rfl (sub_cons rfl (sub_cons rfl (sub_cons rfl (sub_cons rfl (sub_cons rfl (sub_nil _))))))))) ?_
          refine sr_nil (hK18 _ _ ?_)
          refine sc_cond (ev_t rfl) (fun h6 => ?_) (fun h6 => ?_)
          · (try simp only [bsimp] at h6)
            refine sc_seq fun K19 hK19 => ?_
            refine sc_text [3, 3] ?_
            refine sr_pu rfl (fun _ => rd_move (ev_t rfl)) ?_
            refine sr_pu rfl (fun _ => rd_seq (ev_t rfl) ev_c) ?_
            refine sr_sub [(4, _, _), (5, _, _), (6, _, _), (7, _, _), (59, _, _)] (sub_cons rfl (sub_cons rfl (sub_cons rfl (sub_cons rfl (sub_cons rfl (sub_nil _)))))) ?_
            refine sr_nil (hK19 _ _ ?_)
            refine sc_cond (ev_t rfl) (fun h7 => ?_) (fun h7 => ?_)
            · (try simp only [bsimp] at h7)
              refine sc_seq fun K20 hK20 => ?_
              skip
              refine sc_draw [3, 1, 0, 3, 2, 3] [true, true, false, true, true, true] [0, 1, 0, 3, 15, 31] mix (by kernel_rfl) ?_
              have g := g.trans (G.drew _)
              replace B2 := B2.grow (G.drew _)
              replace B5 := B5.grow (G.drew _)
              replace B7 := B7.grow (G.drew _)
              replace B8 := B8.grow (G.drew _)
              have C2 := B2
              have C5 := B5
              have C7 := B7
              have C8 := B8
              refine sr_pu rfl (fun _ => rd_build [_, _] ze_api_Type rfl pl_api_Type (parts_cons ev_c (parts_nil)) rfl) ?_
              refine sr_buildSlice [_, _] rfl el_sl_api_Type ze_api_Type (parts_cons (ev_t rfl) (parts_nil)) rfl rfl ?_
              intro b61 w61 N61
              have x61_2 := N61.ne B2
              have x61_5 := N61.ne B5
              have x61_7 := N61.ne B7
              have x61_8 := N61.ne B8
              have l61 := N61.ge g
              have g := g.trans (N61.g)
              replace B2 := B2.grow (N61.g)
              replace B5 := B5.grow (N61.g)
              replace B7 := B7.grow (N61.g)
              replace B8 := B8.grow (N61.g)
              have B61 := N61.blk
              refine sr_rd0 rfl (rd_loads agg_api_Type (ev_t rfl) rfl (fun _ => C7.row)) ?_
              refine sr_pu rfl (fun _ => rd_assign (ev_t rfl)) ?_
              refine sr_store_all rfl sz_api_Type (ev_t rfl) (ev_t rfl) rfl rfl B5 rfl rfl ?_
              intro wS7 hgS7 hzS7
              clear B5
              intro B5
              replace B2 := B2.keep hgS7 (by intro h; injection h with h; omega)
              replace B7 := B7.keep hgS7 (by intro h; injection h with h; omega)
              replace B8 := B8.keep hgS7 (by intro h; injection h with h; omega)
              replace B61 := B61.keep hgS7 (by intro h; injection h with h; omega)
              have g := g_only g hgS7 (by intro k hk; injection hk with hk; omega)
              refine sr_pu rfl (fun _ => rd_assign ev_c) ?_
              refine sr_sub [(4, _, _), (5, _, _), (6, _, _), (7, _, _)] (sub_cons rfl (sub_cons rfl (sub_cons rfl (sub_cons rfl (sub_nil _))))) ?_
              refine sr_nil (hK20 _ _ ?_)
              refine sc_ret (t_retv (rs := [.tmp 4, .cell 5 23, .tmp 6]) (vs := [_, _, _]) rfl rfl (evr_t rfl (evr_c rfl agg_api_Type rfl (by first | exact B2.row | exact B5.row | exact B7.row | exact B8.row | exact B61.row) (evr_t rfl (evr_nil)))) rfl ?_)
              refine ⟨?_, g⟩
              unfold mthF
              simp only [lockB, h1, h2, h3, h4, h6, h7, cond_true, cond_false]
              first
              | exact ⟨_, rfl, rowf_nil _⟩
              | exact ⟨_, rfl, rowf_blk (l := [_]) (by assumption) rfl (by decide)⟩
              | exact ⟨_, rfl, rowf_blk (l := [_, _]) (by assumption) rfl (by decide)⟩
            · (try simp only [bsimp] at h7)
              refine sc_skip (hK7 _ _ ?_)
              refine sc_sub [(4, _, _), (5, _, _), (6, _, _), (7, _, _)] (sub_cons rfl (sub_cons rfl (sub_cons rfl (sub_cons rfl (sub_nil _))))) ?_
              refine sc_seq fun K21 hK21 => ?_
              refine sc_draw [0, 3, 2, 3] [true, true, true, true] [0, 0, 3, 7] mix (by kernel_rfl) ?_
              have g := g.trans (G.drew _)
              replace B2 := B2.grow (G.drew _)
              replace B5 := B5.grow (G.drew _)
              replace B7 := B7.grow (G.drew _)
              replace B8 := B8.grow (G.drew _)
              refine sr_rd rfl (rd_loads agg_api_Type (ev_t rfl) rfl (fun _ => B7.row)) ?_
              refine sr_pu rfl (fun _ => rd_assign ev_c) ?_
              refine sr_store_all rfl sz_api_Type (ev_t rfl) (ev_t rfl) rfl rfl B5 rfl rfl ?_
              intro wS8 hgS8 hzS8
              clear B5
              intro B5
              replace B2 := B2.keep hgS8 (by intro h; injection h with h; omega)
              replace B7 := B7.keep hgS8 (by intro h; injection h with h; omega)
              replace B8 := B8.keep hgS8 (by intro h; injection h with h; omega)
              have g := g_only g hgS8 (by intro k hk; injection hk with hk; omega)
              refine sr_pu rfl (fun _ => rd_assign ev_c) ?_
              refine sr_nil (hK21 _ _ ?_)
              refine sc_ret (t_retv (rs := [.tmp 4, .cell 5 23, .tmp 6]) (vs := [_, _, _]) rfl rfl (evr_t rfl (evr_c rfl agg_api_Type rfl (by first | exact B2.row | exact B5.row | exact B7.row | exact B8.row) (evr_t rfl (evr_nil)))) rfl ?_)
              refine ⟨?_, g⟩
              unfold mthF
              simp only [lockB, h1, h2, h3, h4, h6, h7, cond_true, cond_false]
              first
              | exact ⟨_, rfl, rowf_nil _⟩
              | exact ⟨_, rfl, rowf_blk (l := [_]) (by assumption) rfl (by decide)⟩
              | exact ⟨_, rfl, rowf_blk (l := [_, _]) (by assumption) rfl (by decide)⟩
          · (try simp only [bsimp] at h6)
            refine sc_seq fun K22 hK22 => ?_
            refine sc_text [3, 3] ?_
            refine sr_pu rfl (fun _ => rd_eq (ev_t rfl) ev_c) ?_
            refine sr_pu rfl (fun _ => rd_assign (ev_t rfl)) ?_
            refine sr_sub [(1, _, _), (4, _, _), (5, _, _), (6, _, _), (7, _, _), (8, _, _), (63, _, _)] (sub_cons rfl (sub_cons rfl (sub_cons rfl (sub_cons rfl (sub_cons rfl (sub_cons rfl (sub_cons rfl (sub_nil _)))))))) ?_
            refine sr_nil (hK22 _ _ ?_)
            refine sc_cond (ev_t rfl) (fun h8 => ?_) (fun h8 => ?_)
            · (try simp only [bsimp] at h8)
              refine sc_seq fun K23 hK23 => ?_
              refine sc_text [3] ?_
              refine sr_pu rfl (fun _ => rd_move (ev_t rfl)) ?_
              refine sr_sub [(4, _, _), (5, _, _), (6, _, _), (7, _, _), (8, _, _), (65, _, _)] (sub_cons rfl (sub_cons rfl (sub_cons rfl (sub_cons rfl (sub_cons rfl (sub_cons rfl (sub_nil _))))))) ?_
              refine sr_nil (hK23 _ _ ?_)
              refine sc_block ?_
              refine sc_seq fun K24 hK24 => ?_
              refine sc_text [3, 3] ?_
              refine sr_pu rfl (fun _ => rd_seq (ev_t rfl) ev_c) ?_
              refine sr_pu rfl (fun _ => rd_assign (ev_t rfl)) ?_
              refine sr_sub [(4, _, _), (5, _, _), (6, _, _), (7, _, _), (8, _, _), (65, _, _), (66, _, _)] (sub_cons rfl (sub_cons rfl (sub_cons rfl (sub_cons rfl (sub_cons rfl (sub_cons rfl (sub_cons rfl (sub_nil _)))))))) ?_
              refine sr_nil (hK24 _ _ ?_)
              refine sc_cond (ev_t rfl) (fun h9 => ?_) (fun h9 => ?_)
              · (try simp only [bsimp] at h9)
                refine sc_seq fun K25 hK25 => ?_
                refine sc_draw [0, 3, 2, 3] [true, true, true, true] [0, 0, 3, 7] mix (by kernel_rfl) ?_
                have g := g.trans (G.drew _)
                replace B2 := B2.grow (G.drew _)
                replace B5 := B5.grow (G.drew _)
                replace B7 := B7.grow (G.drew _)
                replace B8 := B8.grow (G.drew _)
                refine sr_rd rfl (rd_loads agg_api_Type (ev_t rfl) rfl (fun _ => B8.row)) ?_
                refine sr_pu rfl (fun _ => rd_assign ev_c) ?_
                refine sr_store_all rfl sz_api_Type (ev_t rfl) (ev_t rfl) rfl rfl B5 rfl rfl ?_
                intro wS9 hgS9 hzS9
                clear B5
                intro B5
                replace B2 := B2.keep hgS9 (by intro h; injection h with h; omega)
                replace B7 := B7.keep hgS9 (by intro h; injection h with h; omega)
                replace B8 := B8.keep hgS9 (by intro h; injection h with h; omega)
                have g := g_only g hgS9 (by intro k hk; injection hk with hk; omega)
                refine sr_pu rfl (fun _ => rd_assign ev_c) ?_
                refine sr_sub [(4, _, _), (5, _, _), (6, _, _), (7, _, _)] (sub_cons rfl (sub_cons rfl (sub_cons rfl (sub_cons rfl (sub_nil _))))) ?_
                refine sr_nil (hK25 _ _ ?_)
                refine sc_ret (t_retv (rs := [.tmp 4, .cell 5 23, .tmp 6]) (vs := [_, _, _]) rfl rfl (evr_t rfl (evr_c rfl agg_api_Type rfl (by first | exact B2.row | exact B5.row | exact B7.row | exact B8.row) (evr_t rfl (evr_nil)))) rfl ?_)
                refine ⟨?_, g⟩
                unfold mthF
                simp only [lockB, h1, h2, h3, h4, h6, h8, h9, cond_true, cond_false]
                first
                | exact ⟨_, rfl, rowf_nil _⟩
                | exact ⟨_, rfl, rowf_blk (l := [_]) (by assumption) rfl (by decide)⟩
                | exact ⟨_, rfl, rowf_blk (l := [_, _]) (by assumption) rfl (by decide)⟩
              · (try simp only [bsimp] at h9)
                refine sc_seq fun K26 hK26 => ?_
                refine sc_text [3, 3] ?_
                refine sr_pu rfl (fun _ => rd_seq (ev_t rfl) ev_c) ?_
                refine sr_pu rfl (fun _ => rd_assign (ev_t rfl)) ?_
                refine sr_sub [(4, _, _), (5, _, _), (6, _, _), (7, _, _), (8, _, _), (65, _, _), (69, _, _)] (sub_cons rfl (sub_cons rfl (sub_cons rfl (sub_cons rfl (sub_cons rfl (sub_cons rfl (sub_cons rfl (sub_nil _)))))))) ?_
                refine sr_nil (hK26 _ _ ?_)
                refine sc_cond (ev_t rfl) (fun h10 => ?_) (fun h10 => ?_)
                · (try simp only [bsimp] at h10)
                  refine sc_seq fun K27 hK27 => ?_
                  skip
                  refine sc_draw [0, 1, 0, 3, 2, 3] [true, true, false, true, true, true] [0, 1, 0, 3, 15, 31] mix (by kernel_rfl) ?_
                  have g := g.trans (G.drew _)
                  replace B2 := B2.grow (G.drew _)
                  replace B5 := B5.grow (G.drew _)
                  replace B7 := B7.grow (G.drew _)
                  replace B8 := B8.grow (G.drew _)
                  have C2 := B2
                  have C5 := B5
                  have C7 := B7
                  have C8 := B8
                  refine sr_rd rfl (rd_loads agg_api_Type (ev_t rfl) rfl (fun _ => B8.row)) ?_
                  refine sr_buildSlice [_, _] rfl el_sl_api_Type ze_api_Type (parts_cons (ev_t rfl) (parts_nil)) rfl rfl ?_
                  intro b72 w72 N72
                  have x72_2 := N72.ne B2
                  have x72_5 := N72.ne B5
                  have x72_7 := N72.ne B7
                  have x72_8 := N72.ne B8
                  have l72 := N72.ge g
                  have g := g.trans (N72.g)
                  replace B2 := B2.grow (N72.g)
                  replace B5 := B5.grow (N72.g)
                  replace B7 := B7.grow (N72.g)
                  replace B8 := B8.grow (N72.g)
                  have B72 := N72.blk
                  refine sr_rd0 rfl (rd_loads agg_api_Type (ev_t rfl) rfl (fun _ => C7.row)) ?_
                  refine sr_pu rfl (fun _ => rd_assign (ev_t rfl)) ?_
                  refine sr_store_all rfl sz_api_Type (ev_t rfl) (ev_t rfl) rfl rfl B5 rfl rfl ?_
                  intro wS10 hgS10 hzS10
                  clear B5
                  intro B5
                  replace B2 := B2.keep hgS10 (by intro h; injection h with h; omega)
                  replace B7 := B7.keep hgS10 (by intro h; injection h with h; omega)
                  replace B8 := B8.keep hgS10 (by intro h; injection h with h; omega)
                  replace B72 := B72.keep hgS10 (by intro h; injection h with h; omega)
                  have g := g_only g hgS10 (by intro k hk; injection hk with hk; omega)
                  refine sr_pu rfl (fun _ => rd_assign ev_c) ?_
                  refine sr_sub [(4, _, _), (5, _, _), (6, _, _), (7, _, _)] (sub_cons rfl (sub_cons rfl (sub_cons rfl (sub_cons rfl (sub_nil _))))) ?_
                  refine sr_nil (hK27 _ _ ?_)
                  refine sc_ret (t_retv (rs := [.tmp 4, .cell 5 23, .tmp 6]) (vs := [_, _, _]) rfl rfl (evr_t rfl (evr_c rfl agg_api_Type rfl (by first | exact B2.row | exact B5.row | exact B7.row | exact B8.row | exact B72.row) (evr_t rfl (evr_nil)))) rfl ?_)
                  refine ⟨?_, g⟩
                  unfold mthF
                  simp only [lockB, h1, h2, h3, h4, h6, h8, h9, h10, cond_true, cond_false]
                  first
                  | exact ⟨_, rfl, rowf_nil _⟩
                  | exact ⟨_, rfl, rowf_blk (l := [_]) (by assumption) rfl (by decide)⟩
                  | exact ⟨_, rfl, rowf_blk (l := [_, _]) (by assumption) rfl (by decide)⟩
                · (try simp only [bsimp] at h10)
                  refine sc_seq fun K28 hK28 => ?_
                  refine sc_text [3, 3] ?_
                  refine sr_pu rfl (fun _ => rd_seq (ev_t rfl) ev_c) ?_
                  refine sr_pu rfl (fun _ => rd_assign (ev_t rfl)) ?_
                  refine sr_sub [(4, _, _), (5, _, _), (6, _, _), (7, _, _), (8, _, _), (65, _, _), (74, _, _)] (sub_cons rfl (sub_cons rfl (sub_cons rfl (sub_cons rfl (sub_cons rfl (sub_cons rfl (sub_cons rfl (sub_nil _)))))))) ?_
                  refine sr_nil (hK28 _ _ ?_)
                  refine sc_cond (ev_t rfl) (fun h11 => ?_) (fun h11 => ?_)
                  · (try simp only [bsimp] at h11)
                    refine sc_seq fun K29 hK29 => ?_
                    skip
                    refine sc_draw [0, 1, 0, 3, 2, 3] [true, true, false, true, true, true] [0, 1, 0, 3, 15, 31] mix (by kernel_rfl) ?_
                    have g := g.trans (G.drew _)
                    replace B2 := B2.grow (G.drew _)
                    replace B5 := B5.grow (G.drew _)
                    replace B7 := B7.grow (G.drew _)
                    replace B8 := B8.grow (G.drew _)
                    have C2 := B2
                    have C5 := B5
                    have C7 := B7
                    have C8 := B8
                    refine sr_rd rfl (rd_loads agg_api_Type (ev_t rfl) rfl (fun _ => B8.row)) ?_
                    refine sr_buildSlice [_, _] rfl el_sl_api_Type ze_api_Type (parts_cons (ev_t rfl) (parts_nil)) rfl rfl ?_
                    intro b77 w77 N77
                    have x77_2 := N77.ne B2
                    have x77_5 := N77.ne B5
                    have x77_7 := N77.ne B7
                    have x77_8 := N77.ne B8
                    have l77 := N77.ge g
                    have g := g.trans (N77.g)
                    replace B2 := B2.grow (N77.g)
                    replace B5 := B5.grow (N77.g)
                    replace B7 := B7.grow (N77.g)
                    replace B8 := B8.grow (N77.g)
                    have B77 := N77.blk
                    refine sr_rd0 rfl (rd_loads agg_api_Type (ev_t rfl) rfl (fun _ => C8.row)) ?_
                    refine sr_pu rfl (fun _ => rd_assign (ev_t rfl)) ?_
                    refine sr_store_all rfl sz_api_Type (ev_t rfl) (ev_t rfl) rfl rfl B5 rfl rfl ?_
                    intro wS11 hgS11 hzS11
                    clear B5
                    intro B5
                    replace B2 := B2.keep hgS11 (by intro h; injection h with h; omega)
                    replace B7 := B7.keep hgS11 (by intro h; injection h with h; omega)
                    replace B8 := B8.keep hgS11 (by intro h; injection h with h; omega)
                    replace B77 := B77.keep hgS11 (by intro h; injection h with h; omega)
                    have g := g_only g hgS11 (by intro k hk; injection hk with hk; omega)
                    refine sr_pu rfl (fun _ => rd_assign ev_c) ?_
                    refine sr_sub [(4, _, _), (5, _, _), (6, _, _), (7, _, _)] (sub_cons rfl (sub_cons rfl (sub_cons rfl (sub_cons rfl (sub_nil _))))) ?_
                    refine sr_nil (hK29 _ _ ?_)
                    refine sc_ret (t_retv (rs := [.tmp 4, .cell 5 23, .tmp 6]) (vs := [_, _, _]) rfl rfl (evr_t rfl (evr_c rfl agg_api_Type rfl (by first | exact B2.row | exact B5.row | exact B7.row | exact B8.row | exact B77.row) (evr_t rfl (evr_nil)))) rfl ?_)
                    refine ⟨?_, g⟩
                    unfold mthF
                    simp only [lockB, h1, h2, h3, h4, h6, h8, h9, h10, h11, cond_true, cond_false]
                    first
                    | exact ⟨_, rfl, rowf_nil _⟩
                    | exact ⟨_, rfl, rowf_blk (l := [_]) (by assumption) rfl (by decide)⟩
                    | exact ⟨_, rfl, rowf_blk (l := [_, _]) (by assumption) rfl (by decide)⟩
                  · (try simp only [bsimp] at h11)
                    refine sc_seq fun K30 hK30 => ?_
                    refine sc_text [3, 3] ?_
                    refine sr_pu rfl (fun _ => rd_seq (ev_t rfl) ev_c) ?_
                    refine sr_pu rfl (fun _ => rd_assign (ev_t rfl)) ?_
                    refine sr_sub [(4, _, _), (5, _, _), (6, _, _), (7, _, _), (8, _, _), (79, _, _)] (sub_cons rfl (sub_cons rfl (sub_cons rfl (sub_cons rfl (sub_cons rfl (sub_cons rfl (sub_nil _))))))) ?_
                    refine sr_nil (hK30 _ _ ?_)
                    refine sc_cond (ev_t rfl) (fun h12 => ?_) (fun h12 => ?_)
                    · (try simp only [bsimp] at h12)
                      refine sc_seq fun K31 hK31 => ?_
                      refine sc_text [0, 0, 1, 3, 3, 2, 3] ?_
                      refine sr_rd rfl (rd_loads agg_api_Type (ev_t rfl) rfl (fun _ => B8.row)) ?_
                      refine sr_rd rfl (rd_loads agg_api_Type (ev_t rfl) rfl (fun _ => B8.row)) ?_
                      refine sr_buildSlice [_, _, _, _] rfl el_sl_api_Type ze_api_Type (parts_cons (ev_t rfl) (parts_cons (ev_t rfl) (parts_nil))) rfl rfl ?_
                      intro b83 w83 N83
                      have x83_2 := N83.ne B2
                      have x83_5 := N83.ne B5
                      have x83_7 := N83.ne B7
                      have x83_8 := N83.ne B8
                      have l83 := N83.ge g
                      have g := g.trans (N83.g)
                      replace B2 := B2.grow (N83.g)
                      replace B5 := B5.grow (N83.g)
                      replace B7 := B7.grow (N83.g)
                      replace B8 := B8.grow (N83.g)
                      have B83 := N83.blk
                      refine sr_pu rfl (fun _ => rd_build [_, _] ze_api_Type rfl pl_api_Type (parts_cons ev_c (parts_nil)) rfl) ?_
                      refine sr_pu rfl (fun _ => rd_assign (ev_t rfl)) ?_
                      refine sr_store_all rfl sz_api_Type (ev_t rfl) (ev_t rfl) rfl rfl B5 rfl rfl ?_
                      intro wS12 hgS12 hzS12
                      clear B5
                      intro B5
                      replace B2 := B2.keep hgS12 (by intro h; injection h with h; omega)
                      replace B7 := B7.keep hgS12 (by intro h; injection h with h; omega)
                      replace B8 := B8.keep hgS12 (by intro h; injection h with h; omega)
                      replace B83 := B83.keep hgS12 (by intro h; injection h with h; omega)
                      have g := g_only g hgS12 (by intro k hk; injection hk with hk; omega)
                      refine sr_pu rfl (fun _ => rd_assign ev_c) ?_
                      refine sr_sub [(4, _, _), (5, _, _), (6, _, _), (7, _, _)] (sub_cons rfl (sub_cons rfl (sub_cons rfl (sub_cons rfl (sub_nil _))))) ?_
                      refine sr_nil (hK31 _ _ ?_)
                      refine sc_ret (t_retv (rs := [.tmp 4, .cell 5 23, .tmp 6]) (vs := [_, _, _]) rfl rfl (evr_t rfl (evr_c rfl agg_api_Type rfl (by first | exact B2.row | exact B5.row | exact B7.row | exact B8.row | exact B83.row) (evr_t rfl (evr_nil)))) rfl ?_)
                      refine ⟨?_, g⟩
                      unfold mthF
                      simp only [lockB, h1, h2, h3, h4, h6, h8, h9, h10, h11, h12, cond_true, cond_false]
                      first
                      | exact ⟨_, rfl, rowf_nil _⟩
                      | exact ⟨_, rfl, rowf_blk (l := [_]) (by assumption) rfl (by decide)⟩
                      | exact ⟨_, rfl, rowf_blk (l := [_, _]) (by assumption) rfl (by decide)⟩
                    · (try simp only [bsimp] at h12)
                      refine sc_skip (hK7 _ _ ?_)
                      refine sc_sub [(4, _, _), (5, _, _), (6, _, _), (7, _, _)] (sub_cons rfl (sub_cons rfl (sub_cons rfl (sub_cons rfl (sub_nil _))))) ?_
                      refine sc_seq fun K32 hK32 => ?_
                      refine sc_draw [0, 3, 2, 3] [true, true, true, true] [0, 0, 3, 7] mix (by kernel_rfl) ?_
                      have g := g.trans (G.drew _)
                      replace B2 := B2.grow (G.drew _)
                      replace B5 := B5.grow (G.drew _)
                      replace B7 := B7.grow (G.drew _)
                      replace B8 := B8.grow (G.drew _)
                      refine sr_rd rfl (rd_loads agg_api_Type (ev_t rfl) rfl (fun _ => B7.row)) ?_
                      refine sr_pu rfl (fun _ => rd_assign ev_c) ?_
                      refine sr_store_all rfl sz_api_Type (ev_t rfl) (ev_t rfl) rfl rfl B5 rfl rfl ?_
                      intro wS13 hgS13 hzS13
                      clear B5
                      intro B5
                      replace B2 := B2.keep hgS13 (by intro h; injection h with h; omega)
                      replace B7 := B7.keep hgS13 (by intro h; injection h with h; omega)
                      replace B8 := B8.keep hgS13 (by intro h; injection h with h; omega)
                      have g := g_only g hgS13 (by intro k hk; injection hk with hk; omega)
                      refine sr_pu rfl (fun _ => rd_assign ev_c) ?_
                      refine sr_nil (hK32 _ _ ?_)
                      refine sc_ret (t_retv (rs := [.tmp 4, .cell 5 23, .tmp 6]) (vs := [_, _, _]) rfl rfl (evr_t rfl (evr_c rfl agg_api_Type rfl (by first | exact B2.row | exact B5.row | exact B7.row | exact B8.row) (evr_t rfl (evr_nil)))) rfl ?_)
                      refine ⟨?_, g⟩
                      unfold mthF
                      simp only [lockB, h1, h2, h3, h4, h6, h8, h9, h10, h11, h12, cond_true, cond_false]
                      first
                      | exact ⟨_, rfl, rowf_nil _⟩
                      | exact ⟨_, rfl, rowf_blk (l := [_]) (by assumption) rfl (by decide)⟩
                      | exact ⟨_, rfl, rowf_blk (l := [_, _]) (by assumption) rfl (by decide)⟩
            · (try simp only [bsimp] at h8)
              refine sc_skip (hK7 _ _ ?_)
              refine sc_sub [(4, _, _), (5, _, _), (6, _, _), (7, _, _)] (sub_cons rfl (sub_cons rfl (sub_cons rfl (sub_cons rfl (sub_nil _))))) ?_
              refine sc_seq fun K33 hK33 => ?_
              refine sc_draw [0, 3, 2, 3] [true, true, true, true] [0, 0, 3, 7] mix (by kernel_rfl) ?_
              have g := g.trans (G.drew _)
              replace B2 := B2.grow (G.drew _)
              replace B5 := B5.grow (G.drew _)
              replace B7 := B7.grow (G.drew _)
              replace B8 := B8.grow (G.drew _)
              refine sr_rd rfl (rd_loads agg_api_Type (ev_t rfl) rfl (fun _ => B7.row)) ?_
              refine sr_pu rfl (fun _ => rd_assign ev_c) ?_
              refine sr_store_all rfl sz_api_Type (ev_t rfl) (ev_t rfl) rfl rfl B5 rfl rfl ?_
              intro wS14 hgS14 hzS14
              clear B5
              intro B5
              replace B2 := B2.keep hgS14 (by intro h; injection h with h; omega)
              replace B7 := B7.keep hgS14 (by intro h; injection h with h; omega)
              replace B8 := B8.keep hgS14 (by intro h; injection h with h; omega)
              have g := g_only g hgS14 (by intro k hk; injection hk with hk; omega)
              refine sr_pu rfl (fun _ => rd_assign ev_c) ?_
              refine sr_nil (hK33 _ _ ?_)
              refine sc_ret (t_retv (rs := [.tmp 4, .cell 5 23, .tmp 6]) (vs := [_, _, _]) rfl rfl (evr_t rfl (evr_c rfl agg_api_Type rfl (by first | exact B2.row | exact B5.row | exact B7.row | exact B8.row) (evr_t rfl (evr_nil)))) rfl ?_)
              refine ⟨?_, g⟩
              unfold mthF
              simp only [lockB, h1, h2, h3, h4, h6, h8, cond_true, cond_false]
              first
              | exact ⟨_, rfl, rowf_nil _⟩
              | exact ⟨_, rfl, rowf_blk (l := [_]) (by assumption) rfl (by decide)⟩
              | exact ⟨_, rfl, rowf_blk (l := [_, _]) (by assumption) rfl (by decide)⟩
set_option maxHeartbeats 1000000 in
theorem rmth_ok (y : Ty) (s : List UInt8) (w : World) : Ret PP fn_r05_Method #[tyV y, Str s] w fun v w' => MthV (mthF y s) v w' ∧ G w w' := by
  have g := G.refl w
  refine ret_of_sc (m := 90) func_r05_Method rfl rfl [(0, True, _), (1, True, _)] (sub_cons rfl (sub_cons rfl (sub_nil _))) ?_
  refine sc_seq fun K1 hK1 => ?_
  refine sc_text [1, 3, 1, 3] ?_
  refine sr_box rfl (ev_t rfl) rfl ?_
  intro b2 w2 N2
  have l2 := N2.ge g
  have g := g.trans (N2.g)
  have B2 := N2.blk
  refine sr_pu rfl (fun _ => rd_assign ev_c) ?_
  refine sr_alloc rfl ze_api_Type rfl ?_
  intro b5 w5 N5
  have x5_2 := N5.ne B2
  have l5 := N5.ge g
  have g := g.trans (N5.g)
  replace B2 := B2.grow (N5.g)
  have B5 := N5.blk
  refine sr_pu rfl (fun _ => rd_assign ev_c) ?_
  refine sr_sub [(1, _, _), (2, _, _), (4, _, _), (5, _, _), (6, _, _)] (sub_cons rfl (sub_cons rfl (sub_cons rfl (sub_cons rfl (sub_cons rfl (sub_nil _)))))) ?_
  refine sr_nil (hK1 _ _ ?_)
  refine sc_seq fun K2 hK2 => ?_
  refine sc_seq fun K3 hK3 => ?_
  refine sc_text [0, 1, 3] ?_
  refine sr_rd rfl (rd_loads agg_api_Type (ev_t rfl) rfl (fun _ => B2.row)) ?_
  refine sr_pure rfl (rc_call go_r05_Valid ev_f (args_cons (ev_t rfl) (args_nil)) rfl) (rvalid_ok _ _) (fun w13 g13 => ?_)
  have g := g.trans (g13)
  replace B2 := B2.grow (g13)
  replace B5 := B5.grow (g13)
  refine sr_pu rfl (fun _ => rd_not (ev_t rfl)) ?_
  refine sr_sub [(1, _, _), (2, _, _), (4, _, _), (5, _, _), (6, _, _), (14, _, _)] (sub_cons rfl (sub_cons rfl (sub_cons rfl (sub_cons rfl (sub_cons rfl (sub_cons rfl (sub_nil _))))))) ?_
  refine sr_nil (hK3 _ _ ?_)
  refine sc_cond (ev_t rfl) (fun h1 => ?_) (fun h1 => ?_)
  · (try simp only [bsimp] at h1)
    refine sc_seq fun K4 hK4 => ?_
    refine sc_text [3, 3, 2, 3] ?_
    refine sr_pu rfl (fun _ => rd_build [_, _] ze_api_Type rfl pl_api_Type (parts_nil) rfl) ?_
    refine sr_pu rfl (fun _ => rd_assign ev_c) ?_
    refine sr_store_all rfl sz_api_Type (ev_t rfl) (ev_t rfl) rfl rfl B5 rfl rfl ?_
    intro wS1 hgS1 hzS1
    clear B5
    intro B5
    replace B2 := B2.keep hgS1 (by intro h; injection h with h; omega)
    have g := g_only g hgS1 (by intro k hk; injection hk with hk; omega)
    refine sr_pu rfl (fun _ => rd_assign ev_c) ?_
    refine sr_sub [(1, _, _), (2, _, _), (4, _, _), (5, _, _), (6, _, _)] (sub_cons rfl (sub_cons rfl (sub_cons rfl (sub_cons rfl (sub_cons rfl (sub_nil _)))))) ?_
    refine sr_nil (hK4 _ _ ?_)
    refine sc_ret (t_retv (rs := [.tmp 4, .cell 5 23, .tmp 6]) (vs := [_, _, _]) rfl rfl (evr_t rfl (evr_c rfl agg_api_Type rfl (by first | exact B2.row | exact B5.row) (evr_t rfl (evr_nil)))) rfl ?_)
    refine ⟨?_, g⟩
    unfold mthF; rw [h1]; exact ⟨_, rfl, rowf_nil _⟩
  · (try simp only [bsimp] at h1)
    refine sc_skip (hK2 _ _ ?_)
    refine sc_sub [(1, _, _), (2, _, _), (4, _, _), (5, _, _), (6, _, _)] (sub_cons rfl (sub_cons rfl (sub_cons rfl (sub_cons rfl (sub_cons rfl (sub_nil _)))))) ?_
    refine sc_seq fun K5 hK5 => ?_
    refine sc_text [3, 3, 3, 1, 1, 1, 2, 2, 2] ?_
    refine sr_pu rfl (fun _ => rd_build [_, _] ze_api_Type rfl pl_api_Type (parts_nil) rfl) ?_
    refine sr_pu rfl (fun _ => rd_build [_, _] ze_api_Type rfl pl_api_Type (parts_cons ev_c (parts_nil)) rfl) ?_
    refine sr_pu rfl (fun _ => rd_build [_, _] ze_api_Type rfl pl_api_Type (parts_cons ev_c (parts_nil)) rfl) ?_
    refine sr_alloc rfl ze_api_Type rfl ?_
    intro b7 w7 N7
    have x7_2 := N7.ne B2
    have x7_5 := N7.ne B5
    have l7 := N7.ge g
    have g := g.trans (N7.g)
    replace B2 := B2.grow (N7.g)
    replace B5 := B5.grow (N7.g)
    have B7 := N7.blk
    refine sr_alloc rfl ze_api_Type rfl ?_
    intro b8 w8 N8
    have x8_2 := N8.ne B2
    have x8_5 := N8.ne B5
    have x8_7 := N8.ne B7
    have l8 := N8.ge g
    have g := g.trans (N8.g)
    replace B2 := B2.grow (N8.g)
    replace B5 := B5.grow (N8.g)
    replace B7 := B7.grow (N8.g)
    have B8 := N8.blk
    refine sr_alloc rfl ze_api_Type rfl ?_
    intro b9 w9 N9
    have x9_2 := N9.ne B2
    have x9_5 := N9.ne B5
    have x9_7 := N9.ne B7
    have x9_8 := N9.ne B8
    have l9 := N9.ge g
    have g := g.trans (N9.g)
    replace B2 := B2.grow (N9.g)
    replace B5 := B5.grow (N9.g)
    replace B7 := B7.grow (N9.g)
    replace B8 := B8.grow (N9.g)
    have B9 := N9.blk
    refine sr_store_all rfl sz_api_Type (ev_t rfl) (ev_t rfl) rfl rfl B7 rfl rfl ?_
    intro wS2 hgS2 hzS2
    clear B7
    intro B7
    replace B2 := B2.keep hgS2 (by intro h; injection h with h; omega)
    replace B5 := B5.keep hgS2 (by intro h; injection h with h; omega)
    replace B8 := B8.keep hgS2 (by intro h; injection h with h; omega)
    replace B9 := B9.keep hgS2 (by intro h; injection h with h; omega)
    have g := g_only g hgS2 (by intro k hk; injection hk with hk; omega)
    refine sr_store_all rfl sz_api_Type (ev_t rfl) (ev_t rfl) rfl rfl B8 rfl rfl ?_
    intro wS3 hgS3 hzS3
    clear B8
    intro B8
    replace B2 := B2.keep hgS3 (by intro h; injection h with h; omega)
    replace B5 := B5.keep hgS3 (by intro h; injection h with h; omega)
    replace B7 := B7.keep hgS3 (by intro h; injection h with h; omega)
    replace B9 := B9.keep hgS3 (by intro h; injection h with h; omega)
    have g := g_only g hgS3 (by intro k hk; injection hk with hk; omega)
    refine sr_store_all rfl sz_api_Type (ev_t rfl) (ev_t rfl) rfl rfl B9 rfl rfl ?_
    intro wS4 hgS4 hzS4
    clear B9
    intro B9
    replace B2 := B2.keep hgS4 (by intro h; injection h with h; omega)
    replace B5 := B5.keep hgS4 (by intro h; injection h with h; omega)
    replace B7 := B7.keep hgS4 (by intro h; injection h with h; omega)
    replace B8 := B8.keep hgS4 (by intro h; injection h with h; omega)
    have g := g_only g hgS4 (by intro k hk; injection hk with hk; omega)
    refine sr_sub [(1, _, _), (2, _, _), (4, _, _), (5, _, _), (6, _, _), (7, _, _), (8, _, _), (9, _, _)] (sub_cons rfl (sub_cons rfl (sub_cons rfl (sub_cons rfl (sub_cons rfl (sub_cons rfl (sub_cons rfl (sub_cons rfl (sub_nil _))))))))) ?_
    refine sr_nil (hK5 _ _ ?_)
    refine sc_seq fun K6 hK6 => ?_
    refine sc_seq fun K7 hK7 => ?_
    refine sc_text [3, 0] ?_
    refine sr_pu rfl (fun _ => rd_field fo_api_Type_0 (ev_t rfl)) ?_
    refine sr_rd rfl (rd_load one_int (ev_t rfl) (fun _ => B2.at_ rfl)) ?_
    refine sr_sub [(1, _, _), (2, _, _), (4, _, _), (5, _, _), (6, _, _), (7, _, _), (8, _, _), (9, _, _), (20, _, _)] (sub_cons rfl (sub_cons rfl (sub_cons rfl (sub_cons rfl (sub_cons rfl (sub_cons rfl (sub_cons rfl (sub_cons rfl (sub_cons rfl (sub_nil _)))))))))) ?_
    refine sr_nil (hK7 _ _ ?_)
    refine sc_block ?_
    refine sc_seq fun K8 hK8 => ?_
    refine sc_seq fun K9 hK9 => ?_
    refine sc_text [3, 3] ?_
    refine sr_pu rfl (fun _ => rd_eq (ev_t rfl) ev_c) ?_
    refine sr_pu rfl (fun _ => rd_assign (ev_t rfl)) ?_
    refine sr_sub [(1, _, _), (2, _, _), (4, _, _), (5, _, _), (6, _, _), (7, _, _), (8, _, _), (9, _, _), (20, _, _), (21, _, _)] (sub_cons rfl (sub_cons rfl (sub_cons rfl (sub_cons rfl (sub_cons rfl (sub_cons rfl (sub_cons rfl (sub_cons rfl (sub_cons rfl (sub_cons rfl (sub_nil _))))))))))) ?_
    refine sr_nil (hK9 _ _ ?_)
    refine' sc_or [(1, _, _), (2, _, _), (4, _, _), (5, _, _), (6, _, _), (7, _, _), (8, _, _), (9, _, _), (20, _, _)] (sub_cons rfl (sub_cons rfl (sub_cons rfl (sub_cons rfl (sub_cons rfl (sub_cons rfl (sub_cons rfl (sub_cons rfl (sub_cons rfl (sub_cons rfl (sub_nil _))))))))))) rfl (fun hb2 => ?y2) (hK8 _ _ ?n2)
    case y2 =>
     refine sc_text [3, 3] ?_
     refine sr_pu rfl (fun _ => rd_eq (ev_t rfl) ev_c) ?_
     refine sr_pu rfl (fun _ => rd_assign (ev_t rfl)) ?_
     refine sr_sub [(21, _, _), (1, _, _), (2, _, _), (4, _, _), (5, _, _), (6, _, _), (7, _, _), (8, _, _), (9, _, _), (20, _, _)] (sub_cons rfl (sub_cons rfl (sub_cons rfl (sub_cons rfl (sub_cons rfl (sub_cons rfl (sub_cons rfl (sub_cons rfl (sub_cons rfl (sub_cons rfl (sub_nil _))))))))))) ?_
     exact sr_nil (fun a ha => ⟨ha, rfl⟩)
    case n2 =>
     refine sc_cond (ev_t rfl) (fun h3 => ?_) (fun h3 => ?_)
     · have hk : y.kind = 8 ∨ y.kind = 9 := by simpa using h3
       refine sc_seq fun K10 hK10 => ?_
       refine sc_text [3, 3, 3, 3, 3, 3, 3] ?_
       refine sr_pu rfl (fun _ => rd_move (ev_t rfl)) ?_
       refine sr_pu rfl (fun _ => rd_seq (ev_t rfl) ev_c) ?_
       refine sr_pu rfl (fun _ => rd_move (ev_t rfl)) ?_
       refine sr_pug rfl rfl rfl (fun _ => rd_move (ev_t rfl)) ?_
       refine sr_pug rfl rfl rfl (fun _ => rd_seq (ev_u rfl id) ev_c) ?_
       refine sr_pu rfl (fun _ => rd_pick_or (ev_t rfl) (ev_u rfl id)) ?_
       refine sr_pu rfl (fun _ => rd_assign (ev_t rfl)) ?_
       refine sr_sub [(1, _, _), (2, _, _), (4, _, _), (5, _, _), (6, _, _), (7, _, _), (10, _, _)] (sub_cons rfl (sub_cons rfl (sub_cons rfl (sub_cons rfl (sub_cons rfl (sub_cons rfl (sub_cons rfl (sub_nil _)))))))) ?_
       refine sr_nil (hK10 _ _ ?_)
       refine sc_seq fun K11 hK11 => ?_
       refine sc_text [3, 3, 3, 3, 3, 3, 3] ?_
       refine sr_pu rfl (fun _ => rd_move (ev_t rfl)) ?_
       refine sr_pu rfl (fun _ => rd_seq (ev_t rfl) ev_c) ?_
       refine sr_pu rfl (fun _ => rd_move (ev_t rfl)) ?_
       refine sr_pug rfl rfl rfl (fun _ => rd_move (ev_t rfl)) ?_
       refine sr_pug rfl rfl rfl (fun _ => rd_seq (ev_u rfl id) ev_c) ?_
       refine sr_pu rfl (fun _ => rd_pick_or (ev_t rfl) (ev_u rfl id)) ?_
       refine sr_pu rfl (fun _ => rd_assign (ev_t rfl)) ?_
       refine sr_sub [(2, _, _), (4, _, _), (5, _, _), (6, _, _), (7, _, _), (10, _, _), (11, _, _)] (sub_cons rfl (sub_cons rfl (sub_cons rfl (sub_cons rfl (sub_cons rfl (sub_cons rfl (sub_cons rfl (sub_nil _)))))))) ?_
       refine sr_nil (hK11 _ _ ?_)
       refine sc_seq fun K12 hK12 => ?_
       refine sc_drawT (some b5) [0, 3, 3, 3, 3, 3, 0, 3, 3, 3, 3, 1, 3] [0, 0, 2, 6, 14, 30, 62, 126, 254, 510, 30, 1055, 4095] mix (by kernel_rfl) [0, 1, 2, 3, 4, 5, 6, 7, 8, 9, 10, 11, 12] rfl ?_
       have g := g.trans (G.drew _)
       replace B2 := B2.grow (G.drew _)
       replace B5 := B5.grow (G.drew _)
       replace B7 := B7.grow (G.drew _)
       replace B8 := B8.grow (G.drew _)
       replace B9 := B9.grow (G.drew _)
       refine st_rd (L' := [1, 2, 3, 4, 5, 6, 7, 8, 9, 10, 11, 12]) 0 rfl rfl rfl (fun w1 hx => rd_loads agg_api_Type (ev_t rfl) rfl (fun _ => (B7.keep hx (by intro h; first | (injection h with h; omega) | cases h)).row)) ?_
       refine st_pu (L' := [2, 3, 4, 5, 6, 7, 8, 9, 10, 11, 12]) 1 rfl rfl rfl (fun _ => rd_move (ev_t rfl)) ?_
       refine st_pu (L' := [3, 4, 5, 6, 7, 8, 9, 10, 11, 12]) 2 rfl rfl rfl (fun _ => rd_move (ev_t rfl)) ?_
       refine st_pug (L' := [4, 5, 6, 7, 8, 9, 10, 11, 12]) 3 rfl rfl rfl rfl rfl (fun _ => rd_move (ev_t rfl)) ?_
       refine st_pug (L' := [5, 6, 7, 8, 9, 10, 11, 12]) 4 rfl rfl rfl rfl rfl (fun _ => rd_move (ev_u rfl id)) ?_
       refine st_pug (L' := [6, 7, 8, 9, 10, 11, 12]) 5 rfl rfl rfl rfl rfl (fun _ => rd_field fo_api_Type_0 (ev_t rfl)) ?_
       refine st_rdg (L' := [7, 8, 9, 10, 11, 12]) 6 rfl rfl rfl rfl rfl (fun w1 hx => rd_load one_int (ev_u rfl id) (fun _ => (B2.keep hx (by intro h; first | (injection h with h; omega) | cases h)).at_ rfl)) ?_
       refine st_pug (L' := [8, 9, 10, 11, 12]) 7 rfl rfl rfl rfl rfl (fun _ => rd_eq (ev_u rfl id) ev_c) ?_
       refine st_pug (L' := [9, 10, 11, 12]) 8 rfl rfl rfl rfl rfl (fun _ => rd_pick_and (ev_u rfl id) (ev_u rfl id)) ?_
       refine st_pu (L' := [10, 11, 12]) 9 rfl rfl rfl (fun _ => rd_pick_or (ev_t rfl) (ev_u rfl id)) ?_
       refine st_pu (L' := [11, 12]) 10 rfl rfl rfl (fun _ => rd_assign ev_c) ?_
       refine st_eff1 11 rfl rfl ?_
       refine ste_of_sr (L' := [12]) [0, 3, 3, 3, 3, 3, 0, 3, 3, 3, 3, 2, 3] rfl rfl rfl ?_
       refine sr_store_all rfl sz_api_Type (ev_t rfl) (ev_t rfl) rfl rfl B5 rfl rfl ?_
       intro wS5 hgS5 hzS5
       clear B5
       intro B5
       replace B2 := B2.keep hgS5 (by intro h; injection h with h; omega)
       replace B7 := B7.keep hgS5 (by intro h; injection h with h; omega)
       replace B8 := B8.keep hgS5 (by intro h; injection h with h; omega)
       replace B9 := B9.keep hgS5 (by intro h; injection h with h; omega)
       have g := g_only g hgS5 (by intro k hk; injection hk with hk; omega)
       refine sr_nilT (hgS5) ?_
       refine st_pu (L' := []) 12 rfl rfl rfl (fun _ => rd_assign (ev_t rfl)) ?_
       refine st_sub [(4, _, _), (5, _, _), (6, _, _), (7, _, _)] (sub_cons rfl (sub_cons rfl (sub_cons rfl (sub_cons rfl (sub_nil _))))) ?_
       refine st_nil (hK12 _ _ ?_)
       refine sc_ret (t_retv (rs := [.tmp 4, .cell 5 23, .tmp 6]) (vs := [_, _, _]) rfl rfl (evr_t rfl (evr_c rfl agg_api_Type rfl (by first | exact B2.row | exact B5.row | exact B7.row | exact B8.row | exact B9.row) (evr_t rfl (evr_nil)))) rfl ?_)
       refine ⟨?_, g⟩
       unfold mthF; rw [h1]
       rcases hk with hk | hk
       · rw [hk]; exact ⟨_, by simp [lockB, hk]; rfl, rowf_nil _⟩
       · rw [hk]; exact ⟨_, by simp [lockB, hk, Bool.or_assoc]; rfl, rowf_nil _⟩
     · have hk : ¬ (y.kind = 8 ∨ y.kind = 9) := by simpa using h3
       have k8 : decide (y.kind = 8) = false := by rw [decide_eq_false_iff_not]; exact fun e => hk (.inl e)
       have k9 : decide (y.kind = 9) = false := by rw [decide_eq_false_iff_not]; exact fun e => hk (.inr e)
       refine sc_seq fun K13 hK13 => ?_
       refine sc_text [3, 3] ?_
       refine sr_pu rfl (fun _ => rd_eq (ev_t rfl) ev_c) ?_
       refine sr_pu rfl (fun _ => rd_assign (ev_t rfl)) ?_
       refine sr_sub [(1, _, _), (4, _, _), (5, _, _), (6, _, _), (7, _, _), (8, _, _), (9, _, _), (20, _, _), (46, _, _)] (sub_cons rfl (sub_cons rfl (sub_cons rfl (sub_cons rfl (sub_cons rfl (sub_cons rfl (sub_cons rfl (sub_cons rfl (sub_cons rfl (sub_nil _)))))))))) ?_
       refine sr_nil (hK13 _ _ ?_)
       refine sc_cond (ev_t rfl) (fun h4 => ?_) (fun h4 => ?_)
       · (try simp only [bsimp] at h4)
         refine sc_seq fun K14 hK14 => ?_
         refine sc_seq fun K15 hK15 => ?_
         refine sc_text [3, 3] ?_
         refine sr_pu rfl (fun _ => rd_move (ev_t rfl)) ?_
         refine sr_pu rfl (fun _ => rd_seq (ev_t rfl) ev_c) ?_
         refine sr_sub [(1, _, _), (4, _, _), (5, _, _), (6, _, _), (7, _, _), (8, _, _), (49, _, _)] (sub_cons rfl (sub_cons rfl (sub_cons rfl (sub_cons rfl (sub_cons rfl (sub_cons rfl (sub_cons rfl (sub_nil _)))))))) ?_
         refine sr_nil (hK15 _ _ ?_)
         refine sc_cond (ev_t rfl) (fun h5 => ?_) (fun h5 => ?_)
         · (try simp only [bsimp] at h5)
           refine sc_seq fun K16 hK16 => ?_
           skip
           refine sc_draw [0, 1, 0, 3, 2, 3] [true, true, false, true, true, true] [0, 1, 0, 3, 15, 31] mix (by kernel_rfl) ?_
           have g := g.trans (G.drew _)
           replace B2 := B2.grow (G.drew _)
           replace B5 := B5.grow (G.drew _)
           replace B7 := B7.grow (G.drew _)
           replace B8 := B8.grow (G.drew _)
           replace B9 := B9.grow (G.drew _)
           have C2 := B2
           have C5 := B5
           have C7 := B7
           have C8 := B8
           have C9 := B9
           refine sr_rd rfl (rd_loads agg_api_Type (ev_t rfl) rfl (fun _ => B8.row)) ?_
           refine sr_buildSlice [_, _] rfl el_sl_api_Type ze_api_Type (parts_cons (ev_t rfl) (parts_nil)) rfl rfl ?_
           intro b51 w51 N51
           have x51_2 := N51.ne B2
           have x51_5 := N51.ne B5
           have x51_7 := N51.ne B7
           have x51_8 := N51.ne B8
           have x51_9 := N51.ne B9
           have l51 := N51.ge g
           have g := g.trans (N51.g)
           replace B2 := B2.grow (N51.g)
           replace B5 := B5.grow (N51.g)
           replace B7 := B7.grow (N51.g)
           replace B8 := B8.grow (N51.g)
           replace B9 := B9.grow (N51.g)
           have B51 := N51.blk
           refine sr_rd0 rfl (rd_loads agg_api_Type (ev_t rfl) rfl (fun _ => C7.row)) ?_
           refine sr_pu rfl (fun _ => rd_assign (ev_t rfl)) ?_
           refine sr_store_all rfl sz_api_Type (ev_t rfl) (ev_t rfl) rfl rfl B5 rfl rfl ?_
           intro wS6 hgS6 hzS6
           clear B5
           intro B5
           replace B2 := B2.keep hgS6 (by intro h; injection h with h; omega)
           replace B7 := B7.keep hgS6 (by intro h; injection h with h; omega)
           replace B8 := B8.keep hgS6 (by intro h; injection h with h; omega)
           replace B9 := B9.keep hgS6 (by intro h; injection h with h; omega)
           replace B51 := B51.keep hgS6 (by intro h; injection h with h; omega)
           have g := g_only g hgS6 (by intro k hk; injection hk with hk; omega)
           refine sr_pu rfl (fun _ => rd_assign ev_c) ?_
           refine sr_sub [(1, _, _), (4, _, _), (5, _, _), (6, _, _), (7, _, _)] (sub_cons rfl (sub_cons rfl (sub_cons rfl (sub_cons rfl (sub_cons rfl (sub_nil _)))))) ?_
           refine sr_nil (hK16 _ _ ?_)
           refine sc_ret (t_retv (rs := [.tmp 4, .cell 5 23, .tmp 6]) (vs := [_, _, _]) rfl rfl (evr_t rfl (evr_c rfl agg_api_Type rfl (by first | exact B2.row | exact B5.row | exact B7.row | exact B8.row | exact B9.row | exact B51.row) (evr_t rfl (evr_nil)))) rfl ?_)
           refine ⟨?_, g⟩
           unfold mthF
           simp only [k8, k9, lockB, h1, h3, h4, h5, cond_true, cond_false]
           first
           | exact ⟨_, rfl, rowf_nil _⟩
           | exact ⟨_, rfl, rowf_blk (l := [_]) (by assumption) rfl (by decide)⟩
           | exact ⟨_, rfl, rowf_blk (l := [_, _]) (by assumption) rfl (by decide)⟩
         · (try simp only [bsimp] at h5)
           refine sc_skip (hK14 _ _ ?_)
           refine sc_sub [(1, _, _), (4, _, _), (5, _, _), (6, _, _), (7, _, _)] (sub_cons rfl (sub_cons rfl (sub_cons rfl (sub_cons rfl (sub_cons rfl (sub_nil _)))))) ?_
           refine sc_seq fun K17 hK17 => ?_
           refine sc_draw [0, 3, 3, 3, 3, 3, 3, 3, 2, 3] [true, true, true, true, true, true, true, true, true, true] [0, 0, 2, 6, 14, 30, 62, 14, 143, 511] mix (by kernel_rfl) ?_
           have g := g.trans (G.drew _)
           replace B2 := B2.grow (G.drew _)
           replace B5 := B5.grow (G.drew _)
           replace B7 := B7.grow (G.drew _)
           replace B8 := B8.grow (G.drew _)
           replace B9 := B9.grow (G.drew _)
           refine sr_rd rfl (rd_loads agg_api_Type (ev_t rfl) rfl (fun _ => B7.row)) ?_
           refine sr_pu rfl (fun _ => rd_move (ev_t rfl)) ?_
           refine sr_pu rfl (fun _ => rd_seq (ev_t rfl) ev_c) ?_
           refine sr_pu rfl (fun _ => rd_move (ev_t rfl)) ?_
           refine sr_pug rfl rfl rfl (fun _ => rd_move (ev_t rfl)) ?_
           refine sr_pug rfl rfl rfl (fun _ => rd_seq (ev_u rfl id) ev_c) ?_
           refine sr_pu rfl (fun _ => rd_pick_or (ev_t rfl) (ev_u rfl id)) ?_
           refine sr_pu rfl (fun _ => rd_assign ev_c) ?_
           refine sr_store_all rfl sz_api_Type (ev_t rfl) (ev_t rfl) rfl rfl B5 rfl rfl ?_
           intro wS7 hgS7 hzS7
           clear B5
           intro B5
           replace B2 := B2.keep hgS7 (by intro h; injection h with h; omega)
           replace B7 := B7.keep hgS7 (by intro h; injection h with h; omega)
           replace B8 := B8.keep hgS7 (by intro h; injection h with h; omega)
           replace B9 := B9.keep hgS7 (by intro h; injection h with h; omega)
           have g := g_only g hgS7 (by intro k hk; injection hk with hk; omega)
           refine sr_pu rfl (fun _ => rd_assign (ev_t rfl)) ?_
           refine sr_sub [(4, _, _), (5, _, _), (6, _, _), (7, _, _)] (sub_cons rfl (sub_cons rfl (sub_cons rfl (sub_cons rfl (sub_nil _))))) ?_
           refine sr_nil (hK17 _ _ ?_)
           refine sc_ret (t_retv (rs := [.tmp 4, .cell 5 23, .tmp 6]) (vs := [_, _, _]) rfl rfl (evr_t rfl (evr_c rfl agg_api_Type rfl (by first | exact B2.row | exact B5.row | exact B7.row | exact B8.row | exact B9.row) (evr_t rfl (evr_nil)))) rfl ?_)
           refine ⟨?_, g⟩
           unfold mthF
           simp only [k8, k9, lockB, h1, h3, h4, h5, cond_true, cond_false]
           first
           | exact ⟨_, rfl, rowf_nil _⟩
           | exact ⟨_, rfl, rowf_blk (l := [_]) (by assumption) rfl (by decide)⟩
           | exact ⟨_, rfl, rowf_blk (l := [_, _]) (by assumption) rfl (by decide)⟩
       · (try simp only [bsimp] at h4)
         refine sc_seq fun K18 hK18 => ?_
         refine sc_text [3, 3] ?_
         refine sr_pu rfl (fun _ => rd_eq (ev_t rfl) ev_c) ?_
         refine sr_pu rfl (fun _ => rd_assign (ev_t rfl)) ?_
         refine sr_sub [(1, _, _), (4, _, _), (5, _, _), (6, _, _), (7, _, _), (8, _, _), (9, _, _), (20, _, _), (60, _, _)] (sub_cons rfl (sub_cons rfl (sub_cons rfl (sub_cons rfl (sub_cons rfl (sub_cons rfl (sub_cons rfl (sub_cons rfl (sub_cons rfl (sub_nil _)))))))))) ?_
         refine sr_nil (hK18 _ _ ?_)
         refine sc_cond (ev_t rfl) (fun h6 => ?_) (fun h6 => ?_)
         · (try simp only [bsimp] at h6)
           refine sc_seq fun K19 hK19 => ?_
           refine sc_text [3, 3] ?_
           refine sr_pu rfl (fun _ => rd_move (ev_t rfl)) ?_
           refine sr_pu rfl (fun _ => rd_seq (ev_t rfl) ev_c) ?_
           refine sr_sub [(4, _, _), (5, _, _), (6, _, _), (7, _, _), (63, _, _)] (sub_cons rfl (sub_cons rfl (sub_cons rfl (sub_cons rfl (sub_cons rfl (sub_nil _)))))) ?_
           refine sr_nil (hK19 _ _ ?_)
           refine sc_cond (ev_t rfl) (fun h7 => ?_) (fun h7 => ?_)
           · (try simp only [bsimp] at h7)
             refine sc_seq fun K20 hK20 => ?_
             skip
             refine sc_draw [3, 1, 0, 3, 2, 3] [true, true, false, true, true, true] [0, 1, 0, 3, 15, 31] mix (by kernel_rfl) ?_
             have g := g.trans (G.drew _)
             replace B2 := B2.grow (G.drew _)
             replace B5 := B5.grow (G.drew _)
             replace B7 := B7.grow (G.drew _)
             replace B8 := B8.grow (G.drew _)
             replace B9 := B9.grow (G.drew _)
             have C2 := B2
             have C5 := B5
             have C7 := B7
             have C8 := B8
             have C9 := B9
             refine sr_pu rfl (fun _ => rd_build [_, _] ze_api_Type rfl pl_api_Type (parts_cons ev_c (parts_nil)) rfl) ?_
             refine sr_buildSlice [_, _] rfl el_sl_api_Type ze_api_Type (parts_cons (ev_t rfl) (parts_nil)) rfl rfl ?_
             intro b65 w65 N65
             have x65_2 := N65.ne B2
             have x65_5 := N65.ne B5
             have x65_7 := N65.ne B7
             have x65_8 := N65.ne B8
             have x65_9 := N65.ne B9
             have l65 := N65.ge g
             have g := g.trans (N65.g)
             replace B2 := B2.grow (N65.g)
             replace B5 := B5.grow (N65.g)
             replace B7 := B7.grow (N65.g)
             replace B8 := B8.grow (N65.g)
             replace B9 := B9.grow (N65.g)
             have B65 := N65.blk
             refine sr_rd0 rfl (rd_loads agg_api_Type (ev_t rfl) rfl (fun _ => C7.row)) ?_
             refine sr_pu rfl (fun _ => rd_assign (ev_t rfl)) ?_
             refine sr_store_all rfl sz_api_Type (ev_t rfl) (ev_t rfl) rfl rfl B5 rfl rfl ?_
             intro wS8 hgS8 hzS8
             clear B5
             intro B5
             replace B2 := B2.keep hgS8 (by intro h; injection h with h; omega)
             replace B7 := B7.keep hgS8 (by intro h; injection h with h; omega)
             replace B8 := B8.keep hgS8 (by intro h; injection h with h; omega)
             replace B9 := B9.keep hgS8 (by intro h; injection h with h; omega)
             replace B65 := B65.keep hgS8 (by intro h; injection h with h; omega)
             have g := g_only g hgS8 (by intro k hk; injection hk with hk; omega)
             refine sr_pu rfl (fun _ => rd_assign ev_c) ?_
             refine sr_sub [(4, _, _), (5, _, _), (6, _, _), (7, _, _)] (sub_cons rfl (sub_cons rfl (sub_cons rfl (sub_cons rfl (sub_nil _))))) ?_
             refine sr_nil (hK20 _ _ ?_)
             refine sc_ret (t_retv (rs := [.tmp 4, .cell 5 23, .tmp 6]) (vs := [_, _, _]) rfl rfl (evr_t rfl (evr_c rfl agg_api_Type rfl (by first | exact B2.row | exact B5.row | exact B7.row | exact B8.row | exact B9.row | exact B65.row) (evr_t rfl (evr_nil)))) rfl ?_)
             refine ⟨?_, g⟩
             unfold mthF
             simp only [k8, k9, lockB, h1, h3, h4, h6, h7, cond_true, cond_false]
             first
             | exact ⟨_, rfl, rowf_nil _⟩
             | exact ⟨_, rfl, rowf_blk (l := [_]) (by assumption) rfl (by decide)⟩
             | exact ⟨_, rfl, rowf_blk (l := [_, _]) (by assumption) rfl (by decide)⟩
           · (try simp only [bsimp] at h7)
             refine sc_skip (hK6 _ _ ?_)
             refine sc_sub [(4, _, _), (5, _, _), (6, _, _), (7, _, _)] (sub_cons rfl (sub_cons rfl (sub_cons rfl (sub_cons rfl (sub_nil _))))) ?_
             refine sc_seq fun K21 hK21 => ?_
             refine sc_draw [0, 3, 2, 3] [true, true, true, true] [0, 0, 3, 7] mix (by kernel_rfl) ?_
             have g := g.trans (G.drew _)
             replace B2 := B2.grow (G.drew _)
             replace B5 := B5.grow (G.drew _)
             replace B7 := B7.grow (G.drew _)
             replace B8 := B8.grow (G.drew _)
             replace B9 := B9.grow (G.drew _)
             refine sr_rd rfl (rd_loads agg_api_Type (ev_t rfl) rfl (fun _ => B7.row)) ?_
             refine sr_pu rfl (fun _ => rd_assign ev_c) ?_
             refine sr_store_all rfl sz_api_Type (ev_t rfl) (ev_t rfl) rfl rfl B5 rfl rfl ?_
             intro wS9 hgS9 hzS9
             clear B5
             intro B5
             replace B2 := B2.keep hgS9 (by intro h; injection h with h; omega)
             replace B7 := B7.keep hgS9 (by intro h; injection h with h; omega)
             replace B8 := B8.keep hgS9 (by intro h; injection h with h; omega)
             replace B9 := B9.keep hgS9 (by intro h; injection h with h; omega)
             have g := g_only g hgS9 (by intro k hk; injection hk with hk; omega)
             refine sr_pu rfl (fun _ => rd_assign ev_c) ?_
             refine sr_nil (hK21 _ _ ?_)
             refine sc_ret (t_retv (rs := [.tmp 4, .cell 5 23, .tmp 6]) (vs := [_, _, _]) rfl rfl (evr_t rfl (evr_c rfl agg_api_Type rfl (by first | exact B2.row | exact B5.row | exact B7.row | exact B8.row | exact B9.row) (evr_t rfl (evr_nil)))) rfl ?_)
             refine ⟨?_, g⟩
             unfold mthF
             simp only [k8, k9, lockB, h1, h3, h4, h6, h7, cond_true, cond_false]
             first
             | exact ⟨_, rfl, rowf_nil _⟩
             | exact ⟨_, rfl, rowf_blk (l := [_]) (by assumption) rfl (by decide)⟩
             | exact ⟨_, rfl, rowf_blk (l := [_, _]) (by assumption) rfl (by decide)⟩
         · (try simp only [bsimp] at h6)
           refine sc_seq fun K22 hK22 => ?_
           refine sc_text [3, 3] ?_
           refine sr_pu rfl (fun _ => rd_eq (ev_t rfl) ev_c) ?_
           refine sr_pu rfl (fun _ => rd_assign (ev_t rfl)) ?_
           refine sr_sub [(1, _, _), (4, _, _), (5, _, _), (6, _, _), (7, _, _), (8, _, _), (9, _, _), (67, _, _)] (sub_cons rfl (sub_cons rfl (sub_cons rfl (sub_cons rfl (sub_cons rfl (sub_cons rfl (sub_cons rfl (sub_cons rfl (sub_nil _))))))))) ?_
           refine sr_nil (hK22 _ _ ?_)
           refine sc_cond (ev_t rfl) (fun h8 => ?_) (fun h8 => ?_)
           · (try simp only [bsimp] at h8)
             refine sc_seq fun K23 hK23 => ?_
             refine sc_text [3] ?_
             refine sr_pu rfl (fun _ => rd_move (ev_t rfl)) ?_
             refine sr_sub [(4, _, _), (5, _, _), (6, _, _), (7, _, _), (8, _, _), (9, _, _), (69, _, _)] (sub_cons rfl (sub_cons rfl (sub_cons rfl (sub_cons rfl (sub_cons rfl (sub_cons rfl (sub_cons rfl (sub_nil _)))))))) ?_
             refine sr_nil (hK23 _ _ ?_)
             refine sc_block ?_
             refine sc_seq fun K24 hK24 => ?_
             refine sc_text [3, 3] ?_
             refine sr_pu rfl (fun _ => rd_seq (ev_t rfl) ev_c) ?_
             refine sr_pu rfl (fun _ => rd_assign (ev_t rfl)) ?_
             refine sr_sub [(4, _, _), (5, _, _), (6, _, _), (7, _, _), (8, _, _), (9, _, _), (69, _, _), (70, _, _)] (sub_cons rfl (sub_cons rfl (sub_cons rfl (sub_cons rfl (sub_cons rfl (sub_cons rfl (sub_cons rfl (sub_cons rfl (sub_nil _))))))))) ?_
             refine sr_nil (hK24 _ _ ?_)
             refine sc_cond (ev_t rfl) (fun h9 => ?_) (fun h9 => ?_)
             · (try simp only [bsimp] at h9)
               refine sc_seq fun K25 hK25 => ?_
               refine sc_draw [0, 3, 2, 3] [true, true, true, true] [0, 0, 3, 7] mix (by kernel_rfl) ?_
               have g := g.trans (G.drew _)
               replace B2 := B2.grow (G.drew _)
               replace B5 := B5.grow (G.drew _)
               replace B7 := B7.grow (G.drew _)
               replace B8 := B8.grow (G.drew _)
               replace B9 := B9.grow (G.drew _)
               refine sr_rd rfl (rd_loads agg_api_Type (ev_t rfl) rfl (fun _ => B8.row)) ?_
               refine sr_pu rfl (fun _ => rd_assign ev_c) ?_
               refine sr_store_all rfl sz_api_Type (ev_t rfl) (ev_t rfl) rfl rfl B5 rfl rfl ?_
               intro wS10 hgS10 hzS10
               clear B5
               intro B5
               replace B2 := B2.keep hgS10 (by intro h; injection h with h; omega)
               replace B7 := B7.keep hgS10 (by intro h; injection h with h; omega)
               replace B8 := B8.keep hgS10 (by intro h; injection h with h; omega)
               replace B9 := B9.keep hgS10 (by intro h; injection h with h; omega)
               have g := g_only g hgS10 (by intro k hk; injection hk with hk; omega)
               refine sr_pu rfl (fun _ => rd_assign ev_c) ?_
               refine sr_sub [(4, _, _), (5, _, _), (6, _, _), (7, _, _)] (sub_cons rfl (sub_cons rfl (sub_cons rfl (sub_cons rfl (sub_nil _))))) ?_
               refine sr_nil (hK25 _ _ ?_)
               refine sc_ret (t_retv (rs := [.tmp 4, .cell 5 23, .tmp 6]) (vs := [_, _, _]) rfl rfl (evr_t rfl (evr_c rfl agg_api_Type rfl (by first | exact B2.row | exact B5.row | exact B7.row | exact B8.row | exact B9.row) (evr_t rfl (evr_nil)))) rfl ?_)
               refine ⟨?_, g⟩
               unfold mthF
               simp only [k8, k9, lockB, h1, h3, h4, h6, h8, h9, cond_true, cond_false]
               first
               | exact ⟨_, rfl, rowf_nil _⟩
               | exact ⟨_, rfl, rowf_blk (l := [_]) (by assumption) rfl (by decide)⟩
               | exact ⟨_, rfl, rowf_blk (l := [_, _]) (by assumption) rfl (by decide)⟩
             · (try simp only [bsimp] at h9)
               refine sc_seq fun K26 hK26 => ?_
               refine sc_text [3, 3] ?_
               refine sr_pu rfl (fun _ => rd_seq (ev_t rfl) ev_c) ?_
               refine sr_pu rfl (fun _ => rd_assign (ev_t rfl)) ?_
               refine sr_sub [(4, _, _), (5, _, _), (6, _, _), (7, _, _), (8, _, _), (9, _, _), (69, _, _), (73, _, _)] (sub_cons rfl (sub_cons rfl (sub_cons rfl (sub_cons rfl (sub_cons rfl (sub_cons rfl (sub_cons rfl (sub_cons rfl (sub_nil _))))))))) ?_
               refine sr_nil (hK26 _ _ ?_)
               refine sc_cond (ev_t rfl) (fun h10 => ?_) (fun h10 => ?_)
               · (try simp only [bsimp] at h10)
                 refine sc_seq fun K27 hK27 => ?_
                 skip
                 refine sc_draw [0, 1, 0, 3, 2, 3] [true, true, false, true, true, true] [0, 1, 0, 3, 15, 31] mix (by kernel_rfl) ?_
                 have g := g.trans (G.drew _)
                 replace B2 := B2.grow (G.drew _)
                 replace B5 := B5.grow (G.drew _)
                 replace B7 := B7.grow (G.drew _)
                 replace B8 := B8.grow (G.drew _)
                 replace B9 := B9.grow (G.drew _)
                 have C2 := B2
                 have C5 := B5
                 have C7 := B7
                 have C8 := B8
                 have C9 := B9
                 refine sr_rd rfl (rd_loads agg_api_Type (ev_t rfl) rfl (fun _ => B8.row)) ?_
                 refine sr_buildSlice [_, _] rfl el_sl_api_Type ze_api_Type (parts_cons (ev_t rfl) (parts_nil)) rfl rfl ?_
                 intro b76 w76 N76
                 have x76_2 := N76.ne B2
                 have x76_5 := N76.ne B5
                 have x76_7 := N76.ne B7
                 have x76_8 := N76.ne B8
                 have x76_9 := N76.ne B9
                 have l76 := N76.ge g
                 have g := g.trans (N76.g)
                 replace B2 := B2.grow (N76.g)
                 replace B5 := B5.grow (N76.g)
                 replace B7 := B7.grow (N76.g)
                 replace B8 := B8.grow (N76.g)
                 replace B9 := B9.grow (N76.g)
                 have B76 := N76.blk
                 refine sr_rd0 rfl (rd_loads agg_api_Type (ev_t rfl) rfl (fun _ => C7.row)) ?_
                 refine sr_pu rfl (fun _ => rd_assign (ev_t rfl)) ?_
                 refine sr_store_all rfl sz_api_Type (ev_t rfl) (ev_t rfl) rfl rfl B5 rfl rfl ?_
                 intro wS11 hgS11 hzS11
                 clear B5
                 intro B5
                 replace B2 := B2.keep hgS11 (by intro h; injection h with h; omega)
                 replace B7 := B7.keep hgS11 (by intro h; injection h with h; omega)
                 replace B8 := B8.keep hgS11 (by intro h; injection h with h; omega)
                 replace B9 := B9.keep hgS11 (by intro h; injection h with h; omega)
                 replace B76 := B76.keep hgS11 (by intro h; injection h with h; omega)
                 have g := g_only g hgS11 (by intro k hk; injection hk with hk; omega)
                 refine sr_pu rfl (fun _ => rd_assign ev_c) ?_
                 refine sr_sub [(4, _, _), (5, _, _), (6, _, _), (7, _, _)] (sub_cons rfl (sub_cons rfl (sub_cons rfl (sub_cons rfl (sub_nil _))))) ?_
                 refine sr_nil (hK27 _ _ ?_)
                 refine sc_ret (t_retv (rs := [.tmp 4, .cell 5 23, .tmp 6]) (vs := [_, _, _]) rfl rfl (evr_t rfl (evr_c rfl agg_api_Type rfl (by first | exact B2.row | exact B5.row | exact B7.row | exact B8.row | exact B9.row | exact B76.row) (evr_t rfl (evr_nil)))) rfl ?_)
                 refine ⟨?_, g⟩
                 unfold mthF
                 simp only [k8, k9, lockB, h1, h3, h4, h6, h8, h9, h10, cond_true, cond_false]
                 first
                 | exact ⟨_, rfl, rowf_nil _⟩
                 | exact ⟨_, rfl, rowf_blk (l := [_]) (by assumption) rfl (by decide)⟩
                 | exact ⟨_, rfl, rowf_blk (l := [_, _]) (by assumption) rfl (by decide)⟩
               · (try simp only [bsimp] at h10)
                 refine sc_seq fun K28 hK28 => ?_
                 refine sc_text [3, 3] ?_
                 refine sr_pu rfl (fun _ => rd_seq (ev_t rfl) ev_c) ?_
                 refine sr_pu rfl (fun _ => rd_assign (ev_t rfl)) ?_
                 refine sr_sub [(4, _, _), (5, _, _), (6, _, _), (7, _, _), (8, _, _), (9, _, _), (69, _, _), (78, _, _)] (sub_cons rfl (sub_cons rfl (sub_cons rfl (sub_cons rfl (sub_cons rfl (sub_cons rfl (sub_cons rfl (sub_cons rfl (sub_nil _))))))))) ?_
                 refine sr_nil (hK28 _ _ ?_)
                 refine sc_cond (ev_t rfl) (fun h11 => ?_) (fun h11 => ?_)
                 · (try simp only [bsimp] at h11)
                   refine sc_seq fun K29 hK29 => ?_
                   skip
                   refine sc_draw [0, 1, 0, 3, 2, 3] [true, true, false, true, true, true] [0, 1, 0, 3, 15, 31] mix (by kernel_rfl) ?_
                   have g := g.trans (G.drew _)
                   replace B2 := B2.grow (G.drew _)
                   replace B5 := B5.grow (G.drew _)
                   replace B7 := B7.grow (G.drew _)
                   replace B8 := B8.grow (G.drew _)
                   replace B9 := B9.grow (G.drew _)
                   have C2 := B2
                   have C5 := B5
                   have C7 := B7
                   have C8 := B8
                   have C9 := B9
                   refine sr_rd rfl (rd_loads agg_api_Type (ev_t rfl) rfl (fun _ => B8.row)) ?_
                   refine sr_buildSlice [_, _] rfl el_sl_api_Type ze_api_Type (parts_cons (ev_t rfl) (parts_nil)) rfl rfl ?_
                   intro b81 w81 N81
                   have x81_2 := N81.ne B2
                   have x81_5 := N81.ne B5
                   have x81_7 := N81.ne B7
                   have x81_8 := N81.ne B8
                   have x81_9 := N81.ne B9
                   have l81 := N81.ge g
                   have g := g.trans (N81.g)
                   replace B2 := B2.grow (N81.g)
                   replace B5 := B5.grow (N81.g)
                   replace B7 := B7.grow (N81.g)
                   replace B8 := B8.grow (N81.g)
                   replace B9 := B9.grow (N81.g)
                   have B81 := N81.blk
                   refine sr_rd0 rfl (rd_loads agg_api_Type (ev_t rfl) rfl (fun _ => C8.row)) ?_
                   refine sr_pu rfl (fun _ => rd_assign (ev_t rfl)) ?_
                   refine sr_store_all rfl sz_api_Type (ev_t rfl) (ev_t rfl) rfl rfl B5 rfl rfl ?_
                   intro wS12 hgS12 hzS12
                   clear B5
                   intro B5
                   replace B2 := B2.keep hgS12 (by intro h; injection h with h; omega)
                   replace B7 := B7.keep hgS12 (by intro h; injection h with h; omega)
                   replace B8 := B8.keep hgS12 (by intro h; injection h with h; omega)
                   replace B9 := B9.keep hgS12 (by intro h; injection h with h; omega)
                   replace B81 := B81.keep hgS12 (by intro h; injection h with h; omega)
                   have g := g_only g hgS12 (by intro k hk; injection hk with hk; omega)
                   refine sr_pu rfl (fun _ => rd_assign ev_c) ?_
                   refine sr_sub [(4, _, _), (5, _, _), (6, _, _), (7, _, _)] (sub_cons rfl (sub_cons rfl (sub_cons rfl (sub_cons rfl (sub_nil _))))) ?_
                   refine sr_nil (hK29 _ _ ?_)
                   refine sc_ret (t_retv (rs := [.tmp 4, .cell 5 23, .tmp 6]) (vs := [_, _, _]) rfl rfl (evr_t rfl (evr_c rfl agg_api_Type rfl (by first | exact B2.row | exact B5.row | exact B7.row | exact B8.row | exact B9.row | exact B81.row) (evr_t rfl (evr_nil)))) rfl ?_)
                   refine ⟨?_, g⟩
                   unfold mthF
                   simp only [k8, k9, lockB, h1, h3, h4, h6, h8, h9, h10, h11, cond_true, cond_false]
                   first
                   | exact ⟨_, rfl, rowf_nil _⟩
                   | exact ⟨_, rfl, rowf_blk (l := [_]) (by assumption) rfl (by decide)⟩
                   | exact ⟨_, rfl, rowf_blk (l := [_, _]) (by assumption) rfl (by decide)⟩
                 · (try simp only [bsimp] at h11)
                   refine sc_seq fun K30 hK30 => ?_
                   refine sc_text [3, 3] ?_
                   refine sr_pu rfl (fun _ => rd_seq (ev_t rfl) ev_c) ?_
                   refine sr_pu rfl (fun _ => rd_assign (ev_t rfl)) ?_
                   refine sr_sub [(4, _, _), (5, _, _), (6, _, _), (7, _, _), (8, _, _), (9, _, _), (83, _, _)] (sub_cons rfl (sub_cons rfl (sub_cons rfl (sub_cons rfl (sub_cons rfl (sub_cons rfl (sub_cons rfl (sub_nil _)))))))) ?_
                   refine sr_nil (hK30 _ _ ?_)
                   refine sc_cond (ev_t rfl) (fun h12 => ?_) (fun h12 => ?_)
                   · (try simp only [bsimp] at h12)
                     refine sc_seq fun K31 hK31 => ?_
                     skip
                     refine sc_draw [0, 0, 1, 0, 3, 2, 3] [true, true, true, false, true, true, true] [0, 0, 3, 0, 7, 31, 63] mix (by kernel_rfl) ?_
                     have g := g.trans (G.drew _)
                     replace B2 := B2.grow (G.drew _)
                     replace B5 := B5.grow (G.drew _)
                     replace B7 := B7.grow (G.drew _)
                     replace B8 := B8.grow (G.drew _)
                     replace B9 := B9.grow (G.drew _)
                     have C2 := B2
                     have C5 := B5
                     have C7 := B7
                     have C8 := B8
                     have C9 := B9
                     refine sr_rd rfl (rd_loads agg_api_Type (ev_t rfl) rfl (fun _ => B8.row)) ?_
                     refine sr_rd rfl (rd_loads agg_api_Type (ev_t rfl) rfl (fun _ => B8.row)) ?_
                     refine sr_buildSlice [_, _, _, _] rfl el_sl_api_Type ze_api_Type (parts_cons (ev_t rfl) (parts_cons (ev_t rfl) (parts_nil))) rfl rfl ?_
                     intro b87 w87 N87
                     have x87_2 := N87.ne B2
                     have x87_5 := N87.ne B5
                     have x87_7 := N87.ne B7
                     have x87_8 := N87.ne B8
                     have x87_9 := N87.ne B9
                     have l87 := N87.ge g
                     have g := g.trans (N87.g)
                     replace B2 := B2.grow (N87.g)
                     replace B5 := B5.grow (N87.g)
                     replace B7 := B7.grow (N87.g)
                     replace B8 := B8.grow (N87.g)
                     replace B9 := B9.grow (N87.g)
                     have B87 := N87.blk
                     refine sr_rd0 rfl (rd_loads agg_api_Type (ev_t rfl) rfl (fun _ => C9.row)) ?_
                     refine sr_pu rfl (fun _ => rd_assign (ev_t rfl)) ?_
                     refine sr_store_all rfl sz_api_Type (ev_t rfl) (ev_t rfl) rfl rfl B5 rfl rfl ?_
                     intro wS13 hgS13 hzS13
                     clear B5
                     intro B5
                     replace B2 := B2.keep hgS13 (by intro h; injection h with h; omega)
                     replace B7 := B7.keep hgS13 (by intro h; injection h with h; omega)
                     replace B8 := B8.keep hgS13 (by intro h; injection h with h; omega)
                     replace B9 := B9.keep hgS13 (by intro h; injection h with h; omega)
                     replace B87 := B87.keep hgS13 (by intro h; injection h with h; omega)
                     have g := g_only g hgS13 (by intro k hk; injection hk with hk; omega)
                     refine sr_pu rfl (fun _ => rd_assign ev_c) ?_
                     refine sr_sub [(4, _, _), (5, _, _), (6, _, _), (7, _, _)] (sub_cons rfl (sub_cons rfl (sub_cons rfl (sub_cons rfl (sub_nil _))))) ?_
                     refine sr_nil (hK31 _ _ ?_)
                     refine sc_ret (t_retv (rs := [.tmp 4, .cell 5 23, .tmp 6]) (vs := [_, _, _]) rfl rfl (evr_t rfl (evr_c rfl agg_api_Type rfl (by first | exact B2.row | exact B5.row | exact B7.row | exact B8.row | exact B9.row | exact B87.row) (evr_t rfl (evr_nil)))) rfl ?_)
                     refine ⟨?_, g⟩
                     unfold mthF
                     simp only [k8, k9, lockB, h1, h3, h4, h6, h8, h9, h10, h11, h12, cond_true, cond_false]
                     first
                     | exact ⟨_, rfl, rowf_nil _⟩
                     | exact ⟨_, rfl, rowf_blk (l := [_]) (by assumption) rfl (by decide)⟩
                     | exact ⟨_, rfl, rowf_blk (l := [_, _]) (by assumption) rfl (by decide)⟩
                   · (try simp only [bsimp] at h12)
                     refine sc_skip (hK6 _ _ ?_)
                     refine sc_sub [(4, _, _), (5, _, _), (6, _, _), (7, _, _)] (sub_cons rfl (sub_cons rfl (sub_cons rfl (sub_cons rfl (sub_nil _))))) ?_
                     refine sc_seq fun K32 hK32 => ?_
                     refine sc_draw [0, 3, 2, 3] [true, true, true, true] [0, 0, 3, 7] mix (by kernel_rfl) ?_
                     have g := g.trans (G.drew _)
                     replace B2 := B2.grow (G.drew _)
                     replace B5 := B5.grow (G.drew _)
                     replace B7 := B7.grow (G.drew _)
                     replace B8 := B8.grow (G.drew _)
                     replace B9 := B9.grow (G.drew _)
                     refine sr_rd rfl (rd_loads agg_api_Type (ev_t rfl) rfl (fun _ => B7.row)) ?_
                     refine sr_pu rfl (fun _ => rd_assign ev_c) ?_
                     refine sr_store_all rfl sz_api_Type (ev_t rfl) (ev_t rfl) rfl rfl B5 rfl rfl ?_
                     intro wS14 hgS14 hzS14
                     clear B5
                     intro B5
                     replace B2 := B2.keep hgS14 (by intro h; injection h with h; omega)
                     replace B7 := B7.keep hgS14 (by intro h; injection h with h; omega)
                     replace B8 := B8.keep hgS14 (by intro h; injection h with h; omega)
                     replace B9 := B9.keep hgS14 (by intro h; injection h with h; omega)
                     have g := g_only g hgS14 (by intro k hk; injection hk with hk; omega)
                     refine sr_pu rfl (fun _ => rd_assign ev_c) ?_
                     refine sr_nil (hK32 _ _ ?_)
                     refine sc_ret (t_retv (rs := [.tmp 4, .cell 5 23, .tmp 6]) (vs := [_, _, _]) rfl rfl (evr_t rfl (evr_c rfl agg_api_Type rfl (by first | exact B2.row | exact B5.row | exact B7.row | exact B8.row | exact B9.row) (evr_t rfl (evr_nil)))) rfl ?_)
                     refine ⟨?_, g⟩
                     unfold mthF
                     simp only [k8, k9, lockB, h1, h3, h4, h6, h8, h9, h10, h11, h12, cond_true, cond_false]
                     first
                     | exact ⟨_, rfl, rowf_nil _⟩
                     | exact ⟨_, rfl, rowf_blk (l := [_]) (by assumption) rfl (by decide)⟩
                     | exact ⟨_, rfl, rowf_blk (l := [_, _]) (by assumption) rfl (by decide)⟩
           · (try simp only [bsimp] at h8)
             refine sc_skip (hK6 _ _ ?_)
             refine sc_sub [(4, _, _), (5, _, _), (6, _, _), (7, _, _)] (sub_cons rfl (sub_cons rfl (sub_cons rfl (sub_cons rfl (sub_nil _))))) ?_
             refine sc_seq fun K33 hK33 => ?_
             refine sc_draw [0, 3, 2, 3] [true, true, true, true] [0, 0, 3, 7] mix (by kernel_rfl) ?_
             have g := g.trans (G.drew _)
             replace B2 := B2.grow (G.drew _)
             replace B5 := B5.grow (G.drew _)
             replace B7 := B7.grow (G.drew _)
             replace B8 := B8.grow (G.drew _)
             replace B9 := B9.grow (G.drew _)
             refine sr_rd rfl (rd_loads agg_api_Type (ev_t rfl) rfl (fun _ => B7.row)) ?_
             refine sr_pu rfl (fun _ => rd_assign ev_c) ?_
             refine sr_store_all rfl sz_api_Type (ev_t rfl) (ev_t rfl) rfl rfl B5 rfl rfl ?_
             intro wS15 hgS15 hzS15
             clear B5
             intro B5
             replace B2 := B2.keep hgS15 (by intro h; injection h with h; omega)
             replace B7 := B7.keep hgS15 (by intro h; injection h with h; omega)
             replace B8 := B8.keep hgS15 (by intro h; injection h with h; omega)
             replace B9 := B9.keep hgS15 (by intro h; injection h with h; omega)
             have g := g_only g hgS15 (by intro k hk; injection hk with hk; omega)
             refine sr_pu rfl (fun _ => rd_assign ev_c) ?_
             refine sr_nil (hK33 _ _ ?_)
             refine sc_ret (t_retv (rs := [.tmp 4, .cell 5 23, .tmp 6]) (vs := [_, _, _]) rfl rfl (evr_t rfl (evr_c rfl agg_api_Type rfl (by first | exact B2.row | exact B5.row | exact B7.row | exact B8.row | exact B9.row) (evr_t rfl (evr_nil)))) rfl ?_)
             refine ⟨?_, g⟩
             unfold mthF
             simp only [k8, k9, lockB, h1, h3, h4, h6, h8, cond_true, cond_false]
             first
             | exact ⟨_, rfl, rowf_nil _⟩
             | exact ⟨_, rfl, rowf_blk (l := [_]) (by assumption) rfl (by decide)⟩
             | exact ⟨_, rfl, rowf_blk (l := [_, _]) (by assumption) rfl (by decide)⟩
def sameTy (a b : List Ty) : Bool := decide (a.length = b.length) && (List.range a.length).all fun i => tyEqB (a.getD i ty0) (b.getD i ty0)
theorem sameTy_refl (a : List Ty) : sameTy a a = true := by
  rw [sameTy, decide_eq_true rfl, Bool.true_and, List.all_eq_true]; intro i _; exact tyEqB_refl _
theorem sametypes_ok (a b : List Ty) (va vb : Value) (w : World) (ha : RowF tyCells w a va) (hb : RowF tyCells w b vb) (hla : a.length < 100000000) : Ret PP fn_r05_SameTypes #[va, vb] w fun v w' => v = .bool (sameTy a b) ∧ G w w' := by
  obtain ⟨xa, ca, rfl, _, hra⟩ := ha
  obtain ⟨xb, cb, rfl, _, hrb⟩ := hb
  have g := G.refl w
  refine ret_of_sc (m := 26) func_r05_SameTypes rfl rfl [(0, True, _), (1, True, _)] (sub_cons rfl (sub_cons rfl (sub_nil _))) ?_
  refine sc_seq fun K1 hK1 => ?_
  refine sc_text [3] ?_
  refine sr_pu rfl (fun _ => rd_assign ev_c) ?_
  refine sr_nil (hK1 _ _ ?_)
  refine sc_seq fun K2 hK2 => ?_
  refine sc_seq fun K3 hK3 => ?_
  refine sc_text [3, 3, 3, 3, 3] ?_
  refine sr_pu rfl (fun _ => rd_move (ev_t rfl)) ?_
  refine sr_pu rfl (fun _ => rd_len el_sl_api_Type (ev_t rfl)) ?_
  refine sr_pu rfl (fun _ => rd_move (ev_t rfl)) ?_
  refine sr_pu rfl (fun _ => rd_len el_sl_api_Type (ev_t rfl)) ?_
  refine sr_pu rfl (fun _ => rd_ne (ev_t rfl) (ev_t rfl)) ?_
  refine sr_sub [(0, _, _), (1, _, _), (4, _, _), (10, _, _)] (sub_cons rfl (sub_cons rfl (sub_cons rfl (sub_cons rfl (sub_nil _))))) ?_
  refine sr_nil (hK3 _ _ ?_)
  refine sc_cond (ev_t rfl) (fun h1 => ?_) (fun h1 => ?_)
  · have hN : sameTy a b = false := by
      have : ¬ a.length = b.length := by simp at h1; omega
      rw [sameTy, decide_eq_false this]; rfl
    refine sc_seq fun K4 hK4 => ?_
    refine sc_text [3] ?_
    refine sr_pu rfl (fun _ => rd_assign ev_c) ?_
    refine sr_sub [(0, _, _), (1, _, _), (4, _, _)] (sub_cons rfl (sub_cons rfl (sub_cons rfl (sub_nil _)))) ?_
    refine sr_nil (hK4 _ _ ?_)
    refine sc_ret (t_ret1 rfl rfl ?_)
    rw [hN]; exact ⟨rfl, g⟩
  · have hl : a.length = b.length := by simp at h1; omega
    refine sc_skip (hK2 _ _ ?_)
    refine sc_sub [(0, _, _), (1, _, _), (4, _, _)] (sub_cons rfl (sub_cons rfl (sub_cons rfl (sub_nil _)))) ?_
    refine sc_seq fun K5 hK5 => ?_
    refine sc_seq fun K6 hK6 => ?_
    refine sc_text [3] ?_
    refine sr_pu rfl (fun _ => rd_assign ev_c) ?_
    refine sr_nil (hK6 _ _ ?_)
    refine sc_block ?_
    refine sc_loop2 (fun (i : Nat) u1 => (i ≤ a.length ∧ ∀ j, j < i → tyEqB (a.getD j ty0) (b.getD j ty0) = true) ∧ G w u1) [(0, True, _), (1, True, _)] (fun (i : Nat) => [(5, True, .int .i64 i)]) (fun (i : Nat) => a.length - i) (0) ⟨⟨Nat.zero_le _, fun j hj => absurd hj (Nat.not_lt_zero j)⟩, G.refl _⟩ (sub_cons rfl (sub_cons rfl (sub_cons rfl (sub_nil _)))) ?_
    rintro i u1 ⟨hI1, gl1⟩
    have g := g.trans gl1
    refine sc_seq fun K7 hK7 => ?_
    refine sc_seq fun K8 hK8 => ?_
    refine sc_text [3, 3, 3, 3] ?_
    refine sr_pu rfl (fun _ => rd_move (ev_t rfl)) ?_
    refine sr_pu rfl (fun _ => rd_move (ev_t rfl)) ?_
    refine sr_pu rfl (fun _ => rd_len el_sl_api_Type (ev_t rfl)) ?_
    refine sr_pu rfl (fun _ => rd_lt (ev_t rfl) (ev_t rfl)) ?_
    refine sr_sub [(0, _, _), (1, _, _), (5, _, _), (14, _, _)] (sub_cons rfl (sub_cons rfl (sub_cons rfl (sub_cons rfl (sub_nil _))))) ?_
    refine sr_nil (hK8 _ _ ?_)
    refine sc_cond (ev_t rfl) (fun h2 => ?_) (fun h2 => ?_)
    · replace h2 : i < a.length := by simp only [decide_eq_true_eq] at h2; omega
      obtain ⟨b1, o1, rfl, r1⟩ := hra (by omega)
      obtain ⟨b2, o2, rfl, r2⟩ := hrb (by omega)
      have t1 : RowAt w b1 (o1 + i * 2) (tyCells (a.getD i ty0)) := by
        have := rowf_at tyCells_length r1 h2; rwa [List.getD_eq_getElem?_getD, List.getElem?_eq_getElem h2]
      have t2 : RowAt w b2 (o2 + i * 2) (tyCells (b.getD i ty0)) := by
        have := rowf_at tyCells_length r2 (i := i) (by omega); rwa [List.getD_eq_getElem?_getD, List.getElem?_eq_getElem (by omega)]
      refine sc_skip (hK7 _ _ ?_)
      refine sc_sub [(0, _, _), (1, _, _), (5, _, _)] (sub_cons rfl (sub_cons rfl (sub_cons rfl (sub_nil _)))) ?_
      refine sc_seq fun K9 hK9 => ?_
      refine sc_block ?_
      refine sc_seq fun K10 hK10 => ?_
      refine sc_draw [3, 3, 3, 0, 3, 3, 3, 0, 3] [true, true, true, true, true, true, true, true, true] [0, 0, 3, 7, 0, 0, 48, 112, 255] mix (by kernel_rfl) ?_
      have g := g.trans (G.drew _)
      try have gl1 := gl1.trans (G.drew _)
      refine sr_pu rfl (fun _ => rd_move (ev_t rfl)) ?_
      refine sr_pu rfl (fun _ => rd_move (ev_t rfl)) ?_
      refine sr_pu rfl (fun _ => rd_idx el_sl_api_Type (ev_t rfl) (ev_t rfl) (fun _ => by omega)) ?_
      refine sr_rd rfl (rd_loads agg_api_Type (ev_t rfl) rfl (fun _ => t1.grow g)) ?_
      refine sr_pu rfl (fun _ => rd_move (ev_t rfl)) ?_
      refine sr_pu rfl (fun _ => rd_move (ev_t rfl)) ?_
      refine sr_pu rfl (fun _ => rd_idx el_sl_api_Type (ev_t rfl) (ev_t rfl) (fun _ => by omega)) ?_
      refine sr_rd rfl (rd_loads agg_api_Type (ev_t rfl) rfl (fun _ => t2.grow g)) ?_
      refine sr_pu rfl (fun _ => rd_stne fl_api_Type (ev_t rfl) (ev_t rfl) rfl) ?_
      refine sr_sub [(0, _, _), (1, _, _), (5, _, _), (25, _, _)] (sub_cons rfl (sub_cons rfl (sub_cons rfl (sub_cons rfl (sub_nil _))))) ?_
      refine sr_nil (hK10 _ _ ?_)
      refine sc_cond (ev_t rfl) (fun h3 => ?_) (fun h3 => ?_)
      · replace h3 : (!tyEqB (a.getD i ty0) (b.getD i ty0)) = true := h3
        refine sc_seq fun K11 hK11 => ?_
        refine sc_text [3] ?_
        refine sr_pu rfl (fun _ => rd_assign ev_c) ?_
        refine sr_sub [(0, _, _), (1, _, _), (4, _, _), (5, _, _)] (sub_cons rfl (sub_cons rfl (sub_cons rfl (sub_cons rfl (sub_nil _))))) ?_
        refine sr_nil (hK11 _ _ ?_)
        refine sc_ret (t_ret1 rfl rfl ?_)
        refine ⟨congrArg Value.bool ?_, g⟩
        rw [eq_comm, sameTy, decide_eq_true hl, Bool.true_and, List.all_eq_false]
        exact ⟨i, List.mem_range.2 h2, by simpa using h3⟩
      · replace h3 : (!tyEqB (a.getD i ty0) (b.getD i ty0)) = false := h3
        refine sc_skip (hK9 _ _ ?_)
        refine sc_sub [(0, _, _), (1, _, _), (5, _, _)] (sub_cons rfl (sub_cons rfl (sub_cons rfl (sub_nil _)))) ?_
        refine sc_text [3, 3, 3] ?_
        refine sr_pu rfl (fun _ => rd_move (ev_t rfl)) ?_
        refine sr_pu rfl (fun _ => rd_add (ev_t rfl) ev_c (fun _ => by omega)) ?_
        refine sr_pu rfl (fun _ => rd_assign (ev_t rfl)) ?_
        refine sr_sub [(5, _, _), (0, _, _), (1, _, _)] (sub_cons rfl (sub_cons rfl (sub_cons rfl (sub_nil _)))) ?_
        refine sr_nil (fun a ha => ?_)
        refine ⟨i + 1, ha, ⟨⟨h2, fun j hj => ?_⟩, gl1⟩, by omega⟩
        by_cases e : j = i
        · rw [e]; simpa using h3
        · exact hI1.2 j (by omega)
    · (try simp only [bsimp] at h2)
      refine sc_exit rfl (hK5 _ _ ?_)
      refine sc_sub [] (sub_nil _) ?_
      refine sc_seq fun K12 hK12 => ?_
      refine sc_text [3] ?_
      refine sr_pu rfl (fun _ => rd_assign ev_c) ?_
      refine sr_nil (hK12 _ _ ?_)
      refine sc_ret (t_ret1 rfl rfl ?_)
      refine ⟨congrArg Value.bool ?_, g⟩
      rw [eq_comm, sameTy, decide_eq_true hl, Bool.true_and, List.all_eq_true]
      intro j hj
      exact hI1.2 j (by have := List.mem_range.1 hj; simp only [decide_eq_false_iff_not] at h2; omega)
end Go.Rk
