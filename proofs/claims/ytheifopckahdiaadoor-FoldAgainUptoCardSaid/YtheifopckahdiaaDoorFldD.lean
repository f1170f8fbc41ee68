/- Folding: files folded, what the laws build. Conditions: what start-up laid. -/
import Derived.Test.YtheifopckahdiaaDoorFldC
import Derived.Test.YtheifopckahdiaaDoorSynJ
namespace Go.Rk
open Go Go.RowKit
/-- A tree comes back, its children's blocks all of D. -/
def RetD (D : Nat → Prop) (t : Nd) (r : Value) (w : World) : Prop := ∃ p c, r = ndV t (.slice p t.kids.length c) ∧ Kd w D t.kids (.slice p t.kids.length c)
theorem RetD.grow {D : Nat → Prop} {t : Nd} {r : Value} {w w' : World} (h : RetD D t r w) (g : G w w') : RetD D t r w' := by
  obtain ⟨p, c, e, k⟩ := h
  exact ⟨p, c, e, k.grow g⟩
theorem RetD.mono {D D' : Nat → Prop} {t : Nd} {r : Value} {w : World} (h : RetD D t r w) (hD : ∀ b, D b → D' b) : RetD D' t r w := by
  obtain ⟨p, c, e, k⟩ := h
  exact ⟨p, c, e, k.mono fun b hb _ => hD b hb⟩
theorem retD_leaf (D : Nat → Prop) (t : Nd) (w : World) (h : t.kids = []) : RetD D t (ndV t (.slice none 0 0)) w := by
  refine ⟨none, 0, by rw [h]; rfl, ?_⟩
  rw [h]; exact kd_nil _ _
theorem retD_of {t : Nd} {v : Value} {w : World} {D : Nat → Prop} (h : Kd w D t.kids v) : RetD D t (ndV t v) w := by
  obtain ⟨p, c, rfl, k⟩ := h
  exact ⟨p, c, rfl, p, c, rfl, k⟩
@[reducible] def GE (n : Nat) : Nat → Prop := fun b => n ≤ b
def fileT (t : Nd) : Nd := bif validB t then foldT t else nd0
theorem validB_perm {t : Nd} (h : validB t = true) : permF t = true := by
  rw [validB, permB, Bool.and_eq_true, Bool.and_eq_true] at h; exact h.2.1
theorem ffile_ok (t : Nd) (v : Value) (D : Nat → Prop) (w : World) (hL : Laid w) (hb3 : 4 ≤ w.heap.size) (hk : Kd w D t.kids v) (hcn : count t ≤ 1000000) : Ret PP fn_fold_File #[ndV t v] w fun r w' => RetD (GE w.heap.size) (fileT t) r w' ∧ G w w' := by
  obtain ⟨p, c, rfl, hcap, hks⟩ := hk
  have hk0 : Kd w D t.kids (.slice p t.kids.length c) := ⟨p, c, rfl, hcap, hks⟩
  have g := G.refl w
  refine ret_of_sc (m := 9) func_fold_File rfl rfl [(0, True, _)] (sub_cons rfl (sub_nil _)) ?_
  refine sc_seq fun K1 hK1 => ?_
  refine sc_text [1, 1] ?_
  refine sr_box rfl (ev_t rfl) rfl ?_
  intro b1 w1 N1
  have l1 := N1.ge g
  have g := g.trans (N1.g)
  have B1 := N1.blk
  refine sr_alloc rfl ze_api_Node rfl ?_
  intro b2 w2 N2
  have x2_1 := N2.ne B1
  have l2 := N2.ge g
  have g := g.trans (N2.g)
  replace B1 := B1.grow (N2.g)
  have B2 := N2.blk
  refine sr_sub [(1, _, _), (2, _, _)] (sub_cons rfl (sub_cons rfl (sub_nil _))) ?_
  refine sr_nil (hK1 _ _ ?_)
  refine sc_seq fun K2 hK2 => ?_
  refine sc_seq fun K3 hK3 => ?_
  refine sc_text [0, 1, 3] ?_
  refine sr_rd rfl (rd_loads agg_api_Node (ev_t rfl) rfl (fun _ => B1.row)) ?_
  refine sr_pure rfl (rc_call go_syntax_Valid ev_f (args_cons (ev_t rfl) (args_nil)) rfl) (svalid_ok t _ D _ (hL.grow g) (by have := g.size; omega) (hk0.grow g) hcn) (fun w4 g4 => ?_)
  have g := g.trans (g4)
  replace B1 := B1.grow (g4)
  replace B2 := B2.grow (g4)
  refine sr_pu rfl (fun _ => rd_not (ev_t rfl)) ?_
  refine sr_sub [(1, _, _), (2, _, _), (5, _, _)] (sub_cons rfl (sub_cons rfl (sub_cons rfl (sub_nil _)))) ?_
  refine sr_nil (hK3 _ _ ?_)
  refine sc_cond (ev_t rfl) (fun h1 => ?_) (fun h1 => ?_)
  · replace h1 : validB t = false := by simpa using h1
    refine sc_seq fun K4 hK4 => ?_
    refine sc_text [3, 2] ?_
    refine sr_pu rfl (fun _ => rd_build [_, _, _, _, _, _, _, _, _] ze_api_Node rfl pl_api_Node (parts_nil) rfl) ?_
    refine sr_store_all rfl sz_api_Node (ev_t rfl) (ev_t rfl) rfl rfl B2 rfl rfl ?_
    intro wS1 hgS1 hzS1
    clear B2
    intro B2
    replace B1 := B1.keep hgS1 (by intro h; injection h with h; omega)
    have g := g_only g hgS1 (by intro k hk; injection hk with hk; omega)
    try have hk5 := hk5.keep hgS1 (fun b hb _ he => by injection he with he; omega)
    refine sr_sub [(1, _, _), (2, _, _)] (sub_cons rfl (sub_cons rfl (sub_nil _))) ?_
    refine sr_nil (hK4 _ _ ?_)
    refine sc_ret (t_retv1 rfl (evr_c rfl agg_api_Node rfl (by first | exact B1.row | exact B2.row) (evr_nil)) ?_)
    refine ⟨?_, g⟩
    rw [fileT, h1]; exact retD_leaf _ nd0 _ rfl
  · replace h1 : validB t = true := by simpa using h1
    refine sc_skip (hK2 _ _ ?_)
    refine sc_sub [(1, _, _), (2, _, _)] (sub_cons rfl (sub_cons rfl (sub_nil _))) ?_
    refine sc_seq fun K5 hK5 => ?_
    refine sc_text [0, 1, 2] ?_
    refine sr_rd rfl (rd_loads agg_api_Node (ev_t rfl) rfl (fun _ => B1.row)) ?_
    refine sr_call rfl (rc_call go_fold_fold ev_f (args_cons (ev_t rfl) (args_nil)) rfl) (ffold_ok t (validB_perm h1) hcn _ D _ (hk0.grow g)) ?_
    rintro v8 w8 ⟨⟨p5, c5, rfl, hk5⟩, g8⟩
    refine ⟨fun _ => g8, ?_⟩
    have hB2 := B2.lt
    have hlow := g.size
    have g := g.trans g8
    replace B1 := B1.grow (g8)
    replace B2 := B2.grow (g8)
    refine sr_store_all rfl sz_api_Node (ev_t rfl) (ev_t rfl) rfl rfl B2 rfl rfl ?_
    intro wS2 hgS2 hzS2
    clear B2
    intro B2
    replace B1 := B1.keep hgS2 (by intro h; injection h with h; omega)
    have g := g_only g hgS2 (by intro k hk; injection hk with hk; omega)
    try have hk5 := hk5.keep hgS2 (fun b hb _ he => by injection he with he; omega)
    refine sr_sub [(2, _, _)] (sub_cons rfl (sub_nil _)) ?_
    refine sr_nil (hK5 _ _ ?_)
    refine sc_ret (t_retv1 rfl (evr_c rfl agg_api_Node rfl (by first | exact B1.row | exact B2.row) (evr_nil)) ?_)
    refine ⟨?_, g⟩
    rw [fileT, h1]; exact retD_of (hk5.mono fun b hb _ => Nat.le_trans hlow hb)
def binN (op : List UInt8) (a b : Nd) : Nd := .mk 32 op 0 0 [a, b] ty0 0 0
theorem lbinary_ok (op : List UInt8) (a b : Nd) (va vb : Value) (D D' : Nat → Prop) (w : World) (hka : Kd w D a.kids va) (hkb : Kd w D' b.kids vb) : Ret PP fn_l07_binary #[Str op, ndV a va, ndV b vb] w fun r w' => RetD (fun k => D k ∨ D' k ∨ w.heap.size ≤ k) (binN op a b) r w' ∧ G w w' := by
  have hka0 : Kd w (fun k => D k ∨ D' k ∨ w.heap.size ≤ k) a.kids va := hka.mono fun _ h _ => .inl h
  have hkb0 : Kd w (fun k => D k ∨ D' k ∨ w.heap.size ≤ k) b.kids vb := hkb.mono fun _ h _ => .inr (.inl h)
  obtain ⟨pa, ca, rfl, _⟩ := hka
  obtain ⟨pb', cb, rfl, _⟩ := hkb
  have g := G.refl w
  refine ret_of_sc (m := 12) func_l07_binary rfl rfl [(0, True, _), (1, True, _), (2, True, _)] (sub_cons rfl (sub_cons rfl (sub_cons rfl (sub_nil _)))) ?_
  refine sc_seq fun K1 hK1 => ?_
  refine sc_text [1, 1, 1] ?_
  refine sr_box rfl (ev_t rfl) rfl ?_
  intro b4 w4 N4
  have l4 := N4.ge g
  have g := g.trans (N4.g)
  have B4 := N4.blk
  refine sr_box rfl (ev_t rfl) rfl ?_
  intro b5 w5 N5
  have x5_4 := N5.ne B4
  have l5 := N5.ge g
  have g := g.trans (N5.g)
  replace B4 := B4.grow (N5.g)
  have B5 := N5.blk
  refine sr_alloc rfl ze_api_Node rfl ?_
  intro b6 w6 N6
  have x6_4 := N6.ne B4
  have x6_5 := N6.ne B5
  have l6 := N6.ge g
  have g := g.trans (N6.g)
  replace B4 := B4.grow (N6.g)
  replace B5 := B5.grow (N6.g)
  have B6 := N6.blk
  refine sr_sub [(0, _, _), (4, _, _), (5, _, _), (6, _, _)] (sub_cons rfl (sub_cons rfl (sub_cons rfl (sub_cons rfl (sub_nil _))))) ?_
  refine sr_nil (hK1 _ _ ?_)
  refine sc_seq fun K2 hK2 => ?_
  refine sc_text [3, 0, 0, 1, 3, 2] ?_
  refine sr_pu rfl (fun _ => rd_move (ev_t rfl)) ?_
  refine sr_rd rfl (rd_loads agg_api_Node (ev_t rfl) rfl (fun _ => B4.row)) ?_
  refine sr_rd rfl (rd_loads agg_api_Node (ev_t rfl) rfl (fun _ => B5.row)) ?_
  refine sr_buildSlice [_, _, _, _, _, _, _, _, _, _, _, _, _, _, _, _, _, _] rfl el_sl_api_Node ze_api_Node (parts_cons (ev_t rfl) (parts_cons (ev_t rfl) (parts_nil))) rfl rfl ?_
  intro b10 w10 N10
  have x10_4 := N10.ne B4
  have x10_5 := N10.ne B5
  have x10_6 := N10.ne B6
  have l10 := N10.ge g
  have g := g.trans (N10.g)
  replace B4 := B4.grow (N10.g)
  replace B5 := B5.grow (N10.g)
  replace B6 := B6.grow (N10.g)
  have B10 := N10.blk
  refine sr_pu rfl (fun _ => rd_build [_, _, _, _, _, _, _, _, _] ze_api_Node rfl pl_api_Node (parts_cons ev_c (parts_cons (ev_t rfl) (parts_cons (ev_t rfl) (parts_nil)))) rfl) ?_
  refine sr_store_all rfl sz_api_Node (ev_t rfl) (ev_t rfl) rfl rfl B6 rfl rfl ?_
  intro wS1 hgS1 hzS1
  clear B6
  intro B6
  replace B4 := B4.keep hgS1 (by intro h; injection h with h; omega)
  replace B5 := B5.keep hgS1 (by intro h; injection h with h; omega)
  replace B10 := B10.keep hgS1 (by intro h; injection h with h; omega)
  have g := g_only g hgS1 (by intro k hk; injection hk with hk; omega)
  refine sr_sub [(6, _, _)] (sub_cons rfl (sub_nil _)) ?_
  refine sr_nil (hK2 _ _ ?_)
  refine sc_ret (t_retv1 rfl (evr_c rfl agg_api_Node rfl (by first | exact B4.row | exact B5.row | exact B6.row | exact B10.row) (evr_nil)) ?_)
  exact ⟨⟨_, _, rfl, kd_row (.inr (.inr l10)) B10.row (krow_cons (hka0.grow g) (krow_one (hkb0.grow g))) (Nat.le_refl _)⟩, g⟩
def nmN (n : Int) : Nd := .mk 24 [] n 0 [] ty0 0 0
def numT (v : Int) : Nd := bif decide (0 ≤ v) then nmN v else bif decide (v = -9223372036854775808) then binN [45] (unN (IntKind.i64.wrap (0 - (v + 1))) 0) (nmN 1) else unN (IntKind.i64.wrap (0 - v)) 0
theorem lnumber0_ok (v : Int) (w : World) (hv : v ≠ -9223372036854775808) : Ret PP fn_l07_number #[.int .i64 v] w fun r w' => RetD (GE w.heap.size) (numT v) r w' ∧ G w w' := by
  have g := G.refl w
  refine ret_of_sc (m := 19) func_l07_number rfl rfl [(0, True, _)] (sub_cons rfl (sub_nil _)) ?_
  refine sc_seq fun K1 hK1 => ?_
  refine sc_text [1] ?_
  refine sr_alloc rfl ze_api_Node rfl ?_
  intro b2 w2 N2
  have l2 := N2.ge g
  have g := g.trans (N2.g)
  have B2 := N2.blk
  refine sr_nil (hK1 _ _ ?_)
  refine sc_seq fun K2 hK2 => ?_
  refine sc_seq fun K3 hK3 => ?_
  refine sc_text [3, 3] ?_
  refine sr_pu rfl (fun _ => rd_move (ev_t rfl)) ?_
  refine sr_pu rfl (fun _ => rd_ge (ev_t rfl) ev_c) ?_
  refine sr_sub [(0, _, _), (2, _, _), (4, _, _)] (sub_cons rfl (sub_cons rfl (sub_cons rfl (sub_nil _)))) ?_
  refine sr_nil (hK3 _ _ ?_)
  refine sc_cond (ev_t rfl) (fun h1 => ?_) (fun h1 => ?_)
  · (try simp only [bsimp] at h1)
    refine sc_seq fun K4 hK4 => ?_
    refine sc_text [3, 3, 2] ?_
    refine sr_pu rfl (fun _ => rd_move (ev_t rfl)) ?_
    refine sr_pu rfl (fun _ => rd_build [_, _, _, _, _, _, _, _, _] ze_api_Node rfl pl_api_Node (parts_cons ev_c (parts_cons (ev_t rfl) (parts_nil))) rfl) ?_
    refine sr_store_all rfl sz_api_Node (ev_t rfl) (ev_t rfl) rfl rfl B2 rfl rfl ?_
    intro wS1 hgS1 hzS1
    clear B2
    intro B2
    have g := g_only g hgS1 (by intro k hk; injection hk with hk; omega)
    refine sr_sub [(0, _, _), (2, _, _)] (sub_cons rfl (sub_cons rfl (sub_nil _))) ?_
    refine sr_nil (hK4 _ _ ?_)
    refine sc_ret (t_retv1 rfl (evr_c rfl agg_api_Node rfl (by first | exact B2.row) (evr_nil)) ?_)
    refine ⟨?_, g⟩
    rw [numT, h1]; exact retD_leaf _ (nmN v) _ rfl
  · (try simp only [bsimp] at h1)
    refine sc_skip (hK2 _ _ ?_)
    refine sc_sub [(0, _, _), (2, _, _)] (sub_cons rfl (sub_cons rfl (sub_nil _))) ?_
    refine sc_seq fun K5 hK5 => ?_
    refine sc_seq fun K6 hK6 => ?_
    refine sc_text [3, 3] ?_
    refine sr_pu rfl (fun _ => rd_move (ev_t rfl)) ?_
    refine sr_pu rfl (fun _ => rd_eq (ev_t rfl) ev_c) ?_
    refine sr_sub [(0, _, _), (2, _, _), (8, _, _)] (sub_cons rfl (sub_cons rfl (sub_cons rfl (sub_nil _)))) ?_
    refine sr_nil (hK6 _ _ ?_)
    refine sc_cond (ev_t rfl) (fun h2 => ?_) (fun h2 => ?_)
    · exfalso; exact hv (by simpa using h2)
      done
    · (try simp only [bsimp] at h2)
      refine sc_skip (hK5 _ _ ?_)
      refine sc_sub [(0, _, _), (2, _, _)] (sub_cons rfl (sub_cons rfl (sub_nil _))) ?_
      refine sc_seq fun K7 hK7 => ?_
      refine sc_text [3, 3, 3, 1, 3, 2] ?_
      refine sr_pu rfl (fun _ => rd_move (ev_t rfl)) ?_
      refine sr_pu rfl (fun _ => rd_negw (ev_t rfl)) ?_
      refine sr_pu rfl (fun _ => rd_build [_, _, _, _, _, _, _, _, _] ze_api_Node rfl pl_api_Node (parts_cons ev_c (parts_cons (ev_t rfl) (parts_nil))) rfl) ?_
      refine sr_buildSlice [_, _, _, _, _, _, _, _, _] rfl el_sl_api_Node ze_api_Node (parts_cons (ev_t rfl) (parts_nil)) rfl rfl ?_
      intro b17 w17 N17
      have x17_2 := N17.ne B2
      have l17 := N17.ge g
      have g := g.trans (N17.g)
      replace B2 := B2.grow (N17.g)
      have B17 := N17.blk
      refine sr_pu rfl (fun _ => rd_build [_, _, _, _, _, _, _, _, _] ze_api_Node rfl pl_api_Node (parts_cons ev_c (parts_cons ev_c (parts_cons (ev_t rfl) (parts_nil)))) rfl) ?_
      refine sr_store_all rfl sz_api_Node (ev_t rfl) (ev_t rfl) rfl rfl B2 rfl rfl ?_
      intro wS2 hgS2 hzS2
      clear B2
      intro B2
      replace B17 := B17.keep hgS2 (by intro h; injection h with h; omega)
      have g := g_only g hgS2 (by intro k hk; injection hk with hk; omega)
      refine sr_sub [(2, _, _)] (sub_cons rfl (sub_nil _)) ?_
      refine sr_nil (hK7 _ _ ?_)
      refine sc_ret (t_retv1 rfl (evr_c rfl agg_api_Node rfl (by first | exact B2.row | exact B17.row) (evr_nil)) ?_)
      refine ⟨?_, g⟩
      rw [numT, h1, h2]; exact ⟨_, _, rfl, kd_row l17 B17.row (krow_one (t := nmN (IntKind.i64.wrap (0 - v))) (kd_nil _ _)) (Nat.le_refl _)⟩
theorem lnumber1_ok (w : World) : Ret PP fn_l07_number #[.int .i64 (-9223372036854775808)] w fun r w' => RetD (GE w.heap.size) (numT (-9223372036854775808)) r w' ∧ G w w' := by
  have g := G.refl w
  refine ret_of_sc (m := 19) func_l07_number rfl rfl [(0, True, _)] (sub_cons rfl (sub_nil _)) ?_
  refine sc_seq fun K1 hK1 => ?_
  refine sc_text [1] ?_
  refine sr_alloc rfl ze_api_Node rfl ?_
  intro b2 w2 N2
  have l2 := N2.ge g
  have g := g.trans (N2.g)
  have B2 := N2.blk
  refine sr_nil (hK1 _ _ ?_)
  refine sc_seq fun K2 hK2 => ?_
  refine sc_seq fun K3 hK3 => ?_
  refine sc_text [3, 3] ?_
  refine sr_pu rfl (fun _ => rd_move (ev_t rfl)) ?_
  refine sr_pu rfl (fun _ => rd_ge (ev_t rfl) ev_c) ?_
  refine sr_sub [(0, _, _), (2, _, _), (4, _, _)] (sub_cons rfl (sub_cons rfl (sub_cons rfl (sub_nil _)))) ?_
  refine sr_nil (hK3 _ _ ?_)
  refine sc_cond (ev_t rfl) (fun h1 => ?_) (fun h1 => ?_)
  · exfalso; cases h1
    done
  · (try simp only [bsimp] at h1)
    refine sc_skip (hK2 _ _ ?_)
    refine sc_sub [(0, _, _), (2, _, _)] (sub_cons rfl (sub_cons rfl (sub_nil _))) ?_
    refine sc_seq fun K4 hK4 => ?_
    refine sc_seq fun K5 hK5 => ?_
    refine sc_text [3, 3] ?_
    refine sr_pu rfl (fun _ => rd_move (ev_t rfl)) ?_
    refine sr_pu rfl (fun _ => rd_eq (ev_t rfl) ev_c) ?_
    refine sr_sub [(0, _, _), (2, _, _), (8, _, _)] (sub_cons rfl (sub_cons rfl (sub_cons rfl (sub_nil _)))) ?_
    refine sr_nil (hK5 _ _ ?_)
    refine sc_cond (ev_t rfl) (fun h2 => ?_) (fun h2 => ?_)
    · (try simp only [bsimp] at h2)
      refine sc_seq fun K6 hK6 => ?_
      refine sc_text [3, 3, 1, 1, 1, 2] ?_
      refine sr_pu rfl (fun _ => rd_move (ev_t rfl)) ?_
      refine sr_pu rfl (fun _ => rd_addw (ev_t rfl) ev_c) ?_
      refine sr_call rfl (rc_call go_l07_number ev_f (args_cons (ev_t rfl) (args_nil)) rfl) (lnumber0_ok _ _ (by decide)) ?_
      rintro v11 w11 ⟨⟨p11, c11, rfl, hk11⟩, g11⟩
      refine ⟨fun _ => g11, ?_⟩
      have hlow := g.size
      have hB2 := B2.lt
      have hl11 := g11.size
      have g := g.trans g11
      replace B2 := B2.grow (g11)
      refine sr_call rfl (rc_call go_l07_number ev_f (args_cons ev_c (args_nil)) rfl) (lnumber0_ok _ _ (by decide)) ?_
      rintro v12 w12 ⟨⟨p12, c12, rfl, hk12⟩, g12⟩
      refine ⟨fun _ => g12, ?_⟩
      have hl12 := g12.size
      have g := g.trans g12
      have hk11 := hk11.grow g12
      replace B2 := B2.grow (g12)
      refine sr_call rfl (rc_call go_l07_binary ev_f (args_cons ev_c (args_cons (ev_t rfl) (args_cons (ev_t rfl) (args_nil)))) rfl) (lbinary_ok _ _ _ _ _ _ _ _ hk11 hk12) ?_
      rintro v13 w13 ⟨⟨p13, c13, rfl, hk13⟩, g13⟩
      refine ⟨fun _ => g13, ?_⟩
      have g := g.trans g13
      have hk13 := hk13.mono (D' := GE w2.heap.size) fun b hb _ => by rcases hb with h | h | h <;> (have h : _ ≤ b := h; show w2.heap.size ≤ b; omega)
      replace B2 := B2.grow (g13)
      refine sr_store_all rfl sz_api_Node (ev_t rfl) (ev_t rfl) rfl rfl B2 rfl rfl ?_
      intro wS1 hgS1 hzS1
      clear B2
      intro B2
      have g := g_only g hgS1 (by intro k hk; injection hk with hk; omega)
      have hk13 := hk13.keep hgS1 (fun b hb _ he => by injection he with he; have hb : _ ≤ b := hb; omega)
      refine sr_sub [(0, _, _), (2, _, _)] (sub_cons rfl (sub_cons rfl (sub_nil _))) ?_
      refine sr_nil (hK6 _ _ ?_)
      refine sc_ret (t_retv1 rfl (evr_c rfl agg_api_Node rfl (by first | exact B2.row) (evr_nil)) ?_)
      exact ⟨⟨_, _, rfl, hk13.mono fun b hb _ => Nat.le_trans hlow hb⟩, g⟩
    · exfalso; cases h2
      done
theorem lnumber_ok (v : Int) (w : World) : Ret PP fn_l07_number #[.int .i64 v] w fun r w' => RetD (GE w.heap.size) (numT v) r w' ∧ G w w' := by
  by_cases hv : v = -9223372036854775808
  · rw [hv]; exact lnumber1_ok w
  · exact lnumber0_ok v w hv
def prN (n : Nd) : Nd := .mk 21 [] 0 0 [n] ty0 0 0
def blN (n : Nd) : Nd := .mk 10 [] 0 0 [prN n] ty0 0 0
def paN : Nd := .mk 5 [] 0 0 [] ty0 0 0
def noN : Nd := .mk 9 [] 0 0 [] ty0 0 0
def fuN (n : Nd) : Nd := .mk 4 [102] 0 0 [paN, noN, blN n] ty0 0 0
def printT (n : Nd) : Nd := .mk 1 [] 0 0 [fuN n] ty0 0 0
theorem kd_one {w : World} {D : Nat → Prop} {t : Nd} {v : Value} {b : Nat} {e : TypeId} (hb : D b) (h : Blk w b e (ndCells t v)) (hk : Kd w D t.kids v) : Kd w D [t] (.slice (some ⟨b, 0, none⟩) 1 1) := kd_row hb h.row (krow_one hk) (Nat.le_refl _)
set_option maxHeartbeats 4000000 in
theorem lprinting_ok (n : Nd) (v : Value) (D : Nat → Prop) (w : World) (hk : Kd w D n.kids v) : Ret PP fn_l07_printing #[ndV n v] w fun r w' => RetD (fun k => D k ∨ w.heap.size ≤ k) (printT n) r w' ∧ G w w' := by
  have hk0 : Kd w (fun k => D k ∨ w.heap.size ≤ k) n.kids v := hk.mono fun _ h _ => .inl h
  obtain ⟨p, c, rfl, _⟩ := hk
  have g := G.refl w
  refine ret_of_sc (m := 16) func_l07_printing rfl rfl [(0, True, _)] (sub_cons rfl (sub_nil _)) ?_
  refine sc_seq fun K1 hK1 => ?_
  refine sc_text [1, 1] ?_
  refine sr_box rfl (ev_t rfl) rfl ?_
  intro b1 w1 N1
  have l1 := N1.ge g
  have g := g.trans (N1.g)
  have B1 := N1.blk
  refine sr_alloc rfl ze_api_Node rfl ?_
  intro b2 w2 N2
  have x2_1 := N2.ne B1
  have l2 := N2.ge g
  have g := g.trans (N2.g)
  replace B1 := B1.grow (N2.g)
  have B2 := N2.blk
  refine sr_sub [(1, _, _), (2, _, _)] (sub_cons rfl (sub_cons rfl (sub_nil _))) ?_
  refine sr_nil (hK1 _ _ ?_)
  refine sc_seq fun K2 hK2 => ?_
  refine sc_text [0, 1, 3, 1, 3, 1, 2] ?_
  refine sr_rd rfl (rd_loads agg_api_Node (ev_t rfl) rfl (fun _ => B1.row)) ?_
  refine sr_buildSlice [_, _, _, _, _, _, _, _, _] rfl el_sl_api_Node ze_api_Node (parts_cons (ev_t rfl) (parts_nil)) rfl rfl ?_
  intro b5 w5 N5
  have x5_1 := N5.ne B1
  have x5_2 := N5.ne B2
  have l5 := N5.ge g
  have g := g.trans (N5.g)
  replace B1 := B1.grow (N5.g)
  replace B2 := B2.grow (N5.g)
  have B5 := N5.blk
  refine sr_pu rfl (fun _ => rd_build [_, _, _, _, _, _, _, _, _] ze_api_Node rfl pl_api_Node (parts_cons ev_c (parts_cons (ev_t rfl) (parts_nil))) rfl) ?_
  refine sr_buildSlice [_, _, _, _, _, _, _, _, _] rfl el_sl_api_Node ze_api_Node (parts_cons (ev_t rfl) (parts_nil)) rfl rfl ?_
  intro b7 w7 N7
  have x7_1 := N7.ne B1
  have x7_2 := N7.ne B2
  have x7_5 := N7.ne B5
  have l7 := N7.ge g
  have g := g.trans (N7.g)
  replace B1 := B1.grow (N7.g)
  replace B2 := B2.grow (N7.g)
  replace B5 := B5.grow (N7.g)
  have B7 := N7.blk
  refine sr_pu rfl (fun _ => rd_build [_, _, _, _, _, _, _, _, _] ze_api_Node rfl pl_api_Node (parts_cons ev_c (parts_cons (ev_t rfl) (parts_nil))) rfl) ?_
  refine sr_alloc rfl ze_api_Node rfl ?_
  intro b3 w3 N3
  have x3_1 := N3.ne B1
  have x3_2 := N3.ne B2
  have x3_5 := N3.ne B5
  have x3_7 := N3.ne B7
  have l3 := N3.ge g
  have g := g.trans (N3.g)
  replace B1 := B1.grow (N3.g)
  replace B2 := B2.grow (N3.g)
  replace B5 := B5.grow (N3.g)
  replace B7 := B7.grow (N3.g)
  have B3 := N3.blk
  refine sr_store_all rfl sz_api_Node (ev_t rfl) (ev_t rfl) rfl rfl B3 rfl rfl ?_
  intro wS1 hgS1 hzS1
  clear B3
  intro B3
  replace B1 := B1.keep hgS1 (by intro h; injection h with h; omega)
  replace B2 := B2.keep hgS1 (by intro h; injection h with h; omega)
  replace B5 := B5.keep hgS1 (by intro h; injection h with h; omega)
  replace B7 := B7.keep hgS1 (by intro h; injection h with h; omega)
  have g := g_only g hgS1 (by intro k hk; injection hk with hk; omega)
  refine sr_sub [(2, _, _), (3, _, _)] (sub_cons rfl (sub_cons rfl (sub_nil _))) ?_
  refine sr_nil (hK2 _ _ ?_)
  refine sc_seq fun K3 hK3 => ?_
  refine sc_text [3, 3, 0, 1, 3, 1, 3, 2] ?_
  refine sr_pu rfl (fun _ => rd_build [_, _, _, _, _, _, _, _, _] ze_api_Node rfl pl_api_Node (parts_cons ev_c (parts_nil)) rfl) ?_
  refine sr_pu rfl (fun _ => rd_build [_, _, _, _, _, _, _, _, _] ze_api_Node rfl pl_api_Node (parts_cons ev_c (parts_nil)) rfl) ?_
  refine sr_rd rfl (rd_loads agg_api_Node (ev_t rfl) rfl (fun _ => B3.row)) ?_
  refine sr_buildSlice [_, _, _, _, _, _, _, _, _, _, _, _, _, _, _, _, _, _, _, _, _, _, _, _, _, _, _] rfl el_sl_api_Node ze_api_Node (parts_cons (ev_t rfl) (parts_cons (ev_t rfl) (parts_cons (ev_t rfl) (parts_nil)))) rfl rfl ?_
  intro b12 w12 N12
  have x12_1 := N12.ne B1
  have x12_2 := N12.ne B2
  have x12_5 := N12.ne B5
  have x12_7 := N12.ne B7
  have x12_3 := N12.ne B3
  have l12 := N12.ge g
  have g := g.trans (N12.g)
  replace B1 := B1.grow (N12.g)
  replace B2 := B2.grow (N12.g)
  replace B5 := B5.grow (N12.g)
  replace B7 := B7.grow (N12.g)
  replace B3 := B3.grow (N12.g)
  have B12 := N12.blk
  refine sr_pu rfl (fun _ => rd_build [_, _, _, _, _, _, _, _, _] ze_api_Node rfl pl_api_Node (parts_cons ev_c (parts_cons ev_c (parts_cons (ev_t rfl) (parts_nil)))) rfl) ?_
  refine sr_buildSlice [_, _, _, _, _, _, _, _, _] rfl el_sl_api_Node ze_api_Node (parts_cons (ev_t rfl) (parts_nil)) rfl rfl ?_
  intro b14 w14 N14
  have x14_1 := N14.ne B1
  have x14_2 := N14.ne B2
  have x14_5 := N14.ne B5
  have x14_7 := N14.ne B7
  have x14_3 := N14.ne B3
  have x14_12 := N14.ne B12
  have l14 := N14.ge g
  have g := g.trans (N14.g)
  replace B1 := B1.grow (N14.g)
  replace B2 := B2.grow (N14.g)
  replace B5 := B5.grow (N14.g)
  replace B7 := B7.grow (N14.g)
  replace B3 := B3.grow (N14.g)
  replace B12 := B12.grow (N14.g)
  have B14 := N14.blk
  refine sr_pu rfl (fun _ => rd_build [_, _, _, _, _, _, _, _, _] ze_api_Node rfl pl_api_Node (parts_cons ev_c (parts_cons (ev_t rfl) (parts_nil))) rfl) ?_
  refine sr_store_all rfl sz_api_Node (ev_t rfl) (ev_t rfl) rfl rfl B2 rfl rfl ?_
  intro wS2 hgS2 hzS2
  clear B2
  intro B2
  replace B1 := B1.keep hgS2 (by intro h; injection h with h; omega)
  replace B5 := B5.keep hgS2 (by intro h; injection h with h; omega)
  replace B7 := B7.keep hgS2 (by intro h; injection h with h; omega)
  replace B3 := B3.keep hgS2 (by intro h; injection h with h; omega)
  replace B12 := B12.keep hgS2 (by intro h; injection h with h; omega)
  replace B14 := B14.keep hgS2 (by intro h; injection h with h; omega)
  have g := g_only g hgS2 (by intro k hk; injection hk with hk; omega)
  refine sr_sub [(2, _, _)] (sub_cons rfl (sub_nil _)) ?_
  refine sr_nil (hK3 _ _ ?_)
  refine sc_ret (t_retv1 rfl (evr_c rfl agg_api_Node rfl (by first | exact B1.row | exact B2.row | exact B5.row | exact B7.row | exact B3.row | exact B12.row | exact B14.row) (evr_nil)) ?_)
  have k5 := kd_one (.inr l5) B5 (hk0.grow g)
  have k7 := kd_one (t := prN n) (.inr l7) B7 k5
  have k12 : Kd _ _ [paN, noN, blN n] (.slice (some ⟨b12, 0, none⟩) 3 3) := kd_row (.inr l12) B12.row (krow_cons (t := paN) (kd_nil _ _) (krow_cons (t := noN) (kd_nil _ _) (krow_one (t := blN n) k7))) (Nat.le_refl _)
  have k14 := kd_one (t := fuN n) (.inr l14) B14 k12
  exact ⟨⟨_, _, rfl, k14⟩, g⟩
theorem nb1 {a : Bool} (h : (!a) = false) : a = true := by cases a; cases h; rfl
theorem nb2 {a b : Bool} (h : (!a || !b) = false) : a = true ∧ b = true := by cases a <;> cases b <;> first | exact ⟨rfl, rfl⟩ | cases h
theorem nb3 {a b c : Bool} (h : ((!a || !b) || !c) = false) : a = true ∧ b = true ∧ c = true := by cases a <;> cases b <;> cases c <;> first | exact ⟨rfl, rfl, rfl⟩ | cases h
theorem nb4 {a b c d : Bool} (h : (((!a || !b) || !c) || !d) = false) : a = true ∧ b = true ∧ c = true ∧ d = true := by cases a <;> cases b <;> cases c <;> cases d <;> first | exact ⟨rfl, rfl, rfl, rfl⟩ | cases h
def printedT (t : Nd) : Nd := bif ((!lenK t 1 || !lenK (kidAt t 0) 3) || !lenK (kidAt (kidAt t 0) 2) 1) || !lenK (kidAt (kidAt (kidAt t 0) 2) 0) 1 then nd0 else kidAt (kidAt (kidAt (kidAt t 0) 2) 0) 0
theorem lprinted_ok (t : Nd) (v : Value) (D : Nat → Prop) (w : World) (hk : Kd w D t.kids v) : Ret PP fn_l07_printed #[ndV t v] w fun r w' => RetD D (printedT t) r w' ∧ G w w' := by
  obtain ⟨p, c, rfl, hcap, hks⟩ := hk
  have hk0 : Kd w D t.kids (.slice p t.kids.length c) := ⟨p, c, rfl, hcap, hks⟩
  have g := G.refl w
  have h0x : ∃ p' c', lenK t 1 = true → p = some ⟨pb p, po p, none⟩ ∧ RowAt w (pb p) (po p + 0 * 9) (ndCells (kidAt t 0) (.slice p' (kidAt t 0).kids.length c')) ∧ Kd w D (kidAt t 0).kids (.slice p' (kidAt t 0).kids.length c') := by
    obtain ⟨p', c', h⟩ := kd_optx hk0 0
    exact ⟨p', c', fun hl => h (by (have hz := hl; first | (unfold lenK at hz; simp at hz; omega) | (simp at hz; omega)))⟩
  obtain ⟨p0, c0, h0x⟩ := h0x
  have h1x : ∃ p' c', lenK t 1 = true → lenK (kidAt t 0) 3 = true → p0 = some ⟨pb p0, po p0, none⟩ ∧ RowAt w (pb p0) (po p0 + 2 * 9) (ndCells (kidAt (kidAt t 0) 2) (.slice p' (kidAt (kidAt t 0) 2).kids.length c')) ∧ Kd w D (kidAt (kidAt t 0) 2).kids (.slice p' (kidAt (kidAt t 0) 2).kids.length c') := by
    by_cases hl : lenK t 1 = true
    · obtain ⟨p', c', h⟩ := kd_optx (h0x hl).2.2 2
      exact ⟨p', c', fun _ hl => h (by (have hz := hl; first | (unfold lenK at hz; simp at hz; omega) | (simp at hz; omega)))⟩
    · exact ⟨none, 0, fun h => absurd h hl⟩
  obtain ⟨p1, c1, h1x⟩ := h1x
  have h2x : ∃ p' c', lenK t 1 = true → lenK (kidAt t 0) 3 = true → lenK (kidAt (kidAt t 0) 2) 1 = true → p1 = some ⟨pb p1, po p1, none⟩ ∧ RowAt w (pb p1) (po p1 + 0 * 9) (ndCells (kidAt (kidAt (kidAt t 0) 2) 0) (.slice p' (kidAt (kidAt (kidAt t 0) 2) 0).kids.length c')) ∧ Kd w D (kidAt (kidAt (kidAt t 0) 2) 0).kids (.slice p' (kidAt (kidAt (kidAt t 0) 2) 0).kids.length c') := by
    by_cases hl : lenK t 1 = true
    · by_cases hl1 : lenK (kidAt t 0) 3 = true
      · obtain ⟨p', c', h⟩ := kd_optx (h1x hl hl1).2.2 0
        exact ⟨p', c', fun _ _ hl => h (by (have hz := hl; first | (unfold lenK at hz; simp at hz; omega) | (simp at hz; omega)))⟩
      · exact ⟨none, 0, fun _ h => absurd h hl1⟩
    · exact ⟨none, 0, fun h => absurd h hl⟩
  obtain ⟨p2, c2, h2x⟩ := h2x
  refine ret_of_sc (m := 57) func_l07_printed rfl rfl [(0, True, _)] (sub_cons rfl (sub_nil _)) ?_
  refine sc_seq fun K1 hK1 => ?_
  refine sc_text [1, 1] ?_
  refine sr_box rfl (ev_t rfl) rfl ?_
  intro b1 w1 N1
  have l1 := N1.ge g
  have g := g.trans (N1.g)
  have B1 := N1.blk
  refine sr_alloc rfl ze_api_Node rfl ?_
  intro b2 w2 N2
  have x2_1 := N2.ne B1
  have l2 := N2.ge g
  have g := g.trans (N2.g)
  replace B1 := B1.grow (N2.g)
  have B2 := N2.blk
  refine sr_sub [(1, _, _), (2, _, _)] (sub_cons rfl (sub_cons rfl (sub_nil _))) ?_
  refine sr_nil (hK1 _ _ ?_)
  refine sc_seq fun K2 hK2 => ?_
  refine sc_seq fun K3 hK3 => ?_
  refine sc_text [3, 0, 3, 3, 3, 3, 0, 3, 3, 0, 3, 3, 3, 3, 3, 0, 3, 3, 0, 3, 3, 0, 3, 3, 3, 3, 3, 0, 3, 3, 0, 3, 3, 0, 3, 3, 0, 3, 3, 3] ?_
  refine sr_pu rfl (fun _ => rd_field fo_api_Node_4 (ev_t rfl)) ?_
  refine sr_rd rfl (rd_load one_sl_api_Node (ev_t rfl) (fun _ => B1.at_ rfl)) ?_
  refine sr_pu rfl (fun _ => rd_len el_sl_api_Node (ev_t rfl)) ?_
  refine sr_pu rfl (fun _ => rd_ne (ev_t rfl) ev_c) ?_
  refine sr_pu rfl (fun _ => rd_move (ev_t rfl)) ?_
  refine sr_pug rfl rfl rfl (fun _ => rd_field fo_api_Node_4 (ev_t rfl)) ?_
  refine sr_rdg rfl rfl rfl (rd_load one_sl_api_Node (ev_u rfl id) (fun _ => B1.at_ rfl)) ?_
  refine sr_pug rfl rfl rfl (fun _ => rd_idxq el_sl_api_Node (ev_u rfl id) ev_c (fun hc => by (have hz := (nb1 hc.2); first | (unfold lenK at hz; simp at hz; omega) | (simp at hz; omega))) (fun hc => (h0x (nb1 hc.2)).1)) ?_
  refine sr_pug rfl rfl rfl (fun _ => rd_field fo_api_Node_4 (ev_u rfl id)) ?_
  refine sr_rdg rfl rfl rfl (rd_load one_sl_api_Node (ev_u rfl id) (fun hc => ((h0x (nb1 hc.2)).2.1.grow g) 4 _ rfl)) ?_
  refine sr_pug rfl rfl rfl (fun _ => rd_len el_sl_api_Node (ev_u rfl id)) ?_
  refine sr_pug rfl rfl rfl (fun _ => rd_ne (ev_u rfl id) ev_c) ?_
  refine sr_pu rfl (fun _ => rd_pick_or (ev_t rfl) (ev_u rfl id)) ?_
  refine sr_pu rfl (fun _ => rd_move (ev_t rfl)) ?_
  refine sr_pug rfl rfl rfl (fun _ => rd_field fo_api_Node_4 (ev_t rfl)) ?_
  refine sr_rdg rfl rfl rfl (rd_load one_sl_api_Node (ev_u rfl id) (fun _ => B1.at_ rfl)) ?_
  refine sr_pug rfl rfl rfl (fun _ => rd_idxq el_sl_api_Node (ev_u rfl id) ev_c (fun hc => by (have hz := (nb2 hc.2).1; first | (unfold lenK at hz; simp at hz; omega) | (simp at hz; omega))) (fun hc => (h0x (nb2 hc.2).1).1)) ?_
  refine sr_pug rfl rfl rfl (fun _ => rd_field fo_api_Node_4 (ev_u rfl id)) ?_
  refine sr_rdg rfl rfl rfl (rd_load one_sl_api_Node (ev_u rfl id) (fun hc => ((h0x (nb2 hc.2).1).2.1.grow g) 4 _ rfl)) ?_
  refine sr_pug rfl rfl rfl (fun _ => rd_idxq el_sl_api_Node (ev_u rfl id) ev_c (fun hc => by (have hz := (nb2 hc.2).2; first | (unfold lenK at hz; simp at hz; omega) | (simp at hz; omega))) (fun hc => (h1x (nb2 hc.2).1 (nb2 hc.2).2).1)) ?_
  refine sr_pug rfl rfl rfl (fun _ => rd_field fo_api_Node_4 (ev_u rfl id)) ?_
  refine sr_rdg rfl rfl rfl (rd_load one_sl_api_Node (ev_u rfl id) (fun hc => ((h1x (nb2 hc.2).1 (nb2 hc.2).2).2.1.grow g) 4 _ rfl)) ?_
  refine sr_pug rfl rfl rfl (fun _ => rd_len el_sl_api_Node (ev_u rfl id)) ?_
  refine sr_pug rfl rfl rfl (fun _ => rd_ne (ev_u rfl id) ev_c) ?_
  refine sr_pu rfl (fun _ => rd_pick_or (ev_t rfl) (ev_u rfl id)) ?_
  refine sr_pu rfl (fun _ => rd_move (ev_t rfl)) ?_
  refine sr_pug rfl rfl rfl (fun _ => rd_field fo_api_Node_4 (ev_t rfl)) ?_
  refine sr_rdg rfl rfl rfl (rd_load one_sl_api_Node (ev_u rfl id) (fun _ => B1.at_ rfl)) ?_
  refine sr_pug rfl rfl rfl (fun _ => rd_idxq el_sl_api_Node (ev_u rfl id) ev_c (fun hc => by (have hz := (nb3 hc.2).1; first | (unfold lenK at hz; simp at hz; omega) | (simp at hz; omega))) (fun hc => (h0x (nb3 hc.2).1).1)) ?_
  refine sr_pug rfl rfl rfl (fun _ => rd_field fo_api_Node_4 (ev_u rfl id)) ?_
  refine sr_rdg rfl rfl rfl (rd_load one_sl_api_Node (ev_u rfl id) (fun hc => ((h0x (nb3 hc.2).1).2.1.grow g) 4 _ rfl)) ?_
  refine sr_pug rfl rfl rfl (fun _ => rd_idxq el_sl_api_Node (ev_u rfl id) ev_c (fun hc => by (have hz := (nb3 hc.2).2.1; first | (unfold lenK at hz; simp at hz; omega) | (simp at hz; omega))) (fun hc => (h1x (nb3 hc.2).1 (nb3 hc.2).2.1).1)) ?_
  refine sr_pug rfl rfl rfl (fun _ => rd_field fo_api_Node_4 (ev_u rfl id)) ?_
  refine sr_rdg rfl rfl rfl (rd_load one_sl_api_Node (ev_u rfl id) (fun hc => ((h1x (nb3 hc.2).1 (nb3 hc.2).2.1).2.1.grow g) 4 _ rfl)) ?_
  refine sr_pug rfl rfl rfl (fun _ => rd_idxq el_sl_api_Node (ev_u rfl id) ev_c (fun hc => by (have hz := (nb3 hc.2).2.2; first | (unfold lenK at hz; simp at hz; omega) | (simp at hz; omega))) (fun hc => (h2x (nb3 hc.2).1 (nb3 hc.2).2.1 (nb3 hc.2).2.2).1)) ?_
  refine sr_pug rfl rfl rfl (fun _ => rd_field fo_api_Node_4 (ev_u rfl id)) ?_
  refine sr_rdg rfl rfl rfl (rd_load one_sl_api_Node (ev_u rfl id) (fun hc => ((h2x (nb3 hc.2).1 (nb3 hc.2).2.1 (nb3 hc.2).2.2).2.1.grow g) 4 _ rfl)) ?_
  refine sr_pug rfl rfl rfl (fun _ => rd_len el_sl_api_Node (ev_u rfl id)) ?_
  refine sr_pug rfl rfl rfl (fun _ => rd_ne (ev_u rfl id) ev_c) ?_
  refine sr_pu rfl (fun _ => rd_pick_or (ev_t rfl) (ev_u rfl id)) ?_
  refine sr_sub [(1, _, _), (2, _, _), (42, _, _)] (sub_cons rfl (sub_cons rfl (sub_cons rfl (sub_nil _)))) ?_
  refine sr_nil (hK3 _ _ ?_)
  refine sc_cond (ev_t rfl) (fun h1 => ?_) (fun h1 => ?_)
  · (try simp only [bsimp] at h1)
    refine sc_seq fun K4 hK4 => ?_
    refine sc_text [3, 2] ?_
    refine sr_pu rfl (fun _ => rd_build [_, _, _, _, _, _, _, _, _] ze_api_Node rfl pl_api_Node (parts_nil) rfl) ?_
    refine sr_store_all rfl sz_api_Node (ev_t rfl) (ev_t rfl) rfl rfl B2 rfl rfl ?_
    intro wS1 hgS1 hzS1
    clear B2
    intro B2
    replace B1 := B1.keep hgS1 (by intro h; injection h with h; omega)
    have g := g_only g hgS1 (by intro k hk; injection hk with hk; omega)
    refine sr_sub [(1, _, _), (2, _, _)] (sub_cons rfl (sub_cons rfl (sub_nil _))) ?_
    refine sr_nil (hK4 _ _ ?_)
    refine sc_ret (t_retv1 rfl (evr_c rfl agg_api_Node rfl (by first | exact B1.row | exact B2.row) (evr_nil)) ?_)
    refine ⟨?_, g⟩
    rw [printedT, show (((!lenK t 1 || !lenK (kidAt t 0) 3) || !lenK (kidAt (kidAt t 0) 2) 1) || !lenK (kidAt (kidAt (kidAt t 0) 2) 0) 1) = true from h1]; exact retD_leaf _ nd0 _ rfl
  · obtain ⟨q0, q1, q2, q3⟩ := nb4 h1
    obtain ⟨e0, r0, k0⟩ := h0x q0
    obtain ⟨e1, r1, k1⟩ := h1x q0 q1
    obtain ⟨e2, r2, k2⟩ := h2x q0 q1 q2
    have q0 : t.kids.length = 1 := by (have hz := q0; first | (unfold lenK at hz; simp at hz; omega) | (simp at hz; omega))
    have q1 : (kidAt t 0).kids.length = 3 := by (have hz := q1; first | (unfold lenK at hz; simp at hz; omega) | (simp at hz; omega))
    have q2 : (kidAt (kidAt t 0) 2).kids.length = 1 := by (have hz := q2; first | (unfold lenK at hz; simp at hz; omega) | (simp at hz; omega))
    have q3 : (kidAt (kidAt (kidAt t 0) 2) 0).kids.length = 1 := by (have hz := q3; first | (unfold lenK at hz; simp at hz; omega) | (simp at hz; omega))
    obtain ⟨e3, p3, c3, r3, k3⟩ := kd_opt k2 (i := 0) (by omega)
    refine sc_skip (hK2 _ _ ?_)
    refine sc_sub [(1, _, _), (2, _, _)] (sub_cons rfl (sub_cons rfl (sub_nil _))) ?_
    refine sc_seq fun K5 hK5 => ?_
    refine sc_text [3, 0, 3, 3, 0, 3, 3, 0, 3, 3, 0, 3, 0, 2] ?_
    refine sr_pu rfl (fun _ => rd_field fo_api_Node_4 (ev_t rfl)) ?_
    refine sr_rd rfl (rd_load one_sl_api_Node (ev_t rfl) (fun _ => B1.at_ rfl)) ?_
    refine sr_pu rfl (fun _ => rd_idxq el_sl_api_Node (ev_t rfl) ev_c (fun _ => by omega) (fun _ => e0)) ?_
    refine sr_pu rfl (fun _ => rd_field fo_api_Node_4 (ev_t rfl)) ?_
    refine sr_rd rfl (rd_load one_sl_api_Node (ev_t rfl) (fun _ => (r0.grow g) 4 _ rfl)) ?_
    refine sr_pu rfl (fun _ => rd_idxq el_sl_api_Node (ev_t rfl) ev_c (fun _ => by omega) (fun _ => e1)) ?_
    refine sr_pu rfl (fun _ => rd_field fo_api_Node_4 (ev_t rfl)) ?_
    refine sr_rd rfl (rd_load one_sl_api_Node (ev_t rfl) (fun _ => (r1.grow g) 4 _ rfl)) ?_
    refine sr_pu rfl (fun _ => rd_idxq el_sl_api_Node (ev_t rfl) ev_c (fun _ => by omega) (fun _ => e2)) ?_
    refine sr_pu rfl (fun _ => rd_field fo_api_Node_4 (ev_t rfl)) ?_
    refine sr_rd rfl (rd_load one_sl_api_Node (ev_t rfl) (fun _ => (r2.grow g) 4 _ rfl)) ?_
    refine sr_pu rfl (fun _ => rd_idxq el_sl_api_Node (ev_t rfl) ev_c (fun _ => by omega) (fun _ => e3)) ?_
    refine sr_rd rfl (rd_loads agg_api_Node (ev_t rfl) rfl (fun _ => r3.grow g)) ?_
    refine sr_store_all rfl sz_api_Node (ev_t rfl) (ev_t rfl) rfl rfl B2 rfl rfl ?_
    intro wS2 hgS2 hzS2
    clear B2
    intro B2
    replace B1 := B1.keep hgS2 (by intro h; injection h with h; omega)
    have g := g_only g hgS2 (by intro k hk; injection hk with hk; omega)
    refine sr_sub [(2, _, _)] (sub_cons rfl (sub_nil _)) ?_
    refine sr_nil (hK5 _ _ ?_)
    refine sc_ret (t_retv1 rfl (evr_c rfl agg_api_Node rfl (by first | exact B1.row | exact B2.row) (evr_nil)) ?_)
    refine ⟨?_, g⟩
    rw [printedT, show (((!lenK t 1 || !lenK (kidAt t 0) 3) || !lenK (kidAt (kidAt t 0) 2) 1) || !lenK (kidAt (kidAt (kidAt t 0) 2) 0) 1) = false from h1]; exact retD_of (k3.grow g)
end Go.Rk
