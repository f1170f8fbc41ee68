/- Merged texts of one road: FldD, FldE, FldF, FldG, Arr, FldI, Y. Conditions: each text's own. -/
import Derived.Test.YtheifopckahdiaaDoorA07
import Derived.Test.YtheifopckahdiaaDoorA06
import Derived.Test.YtheifopckahdiaaDoorA03
import Derived.Test.YtheifopckahdiaaDoorA01
import Derived.Test.YtheifopckahdiaaDoorCards
import Derived.Test.YtheifopckahdiaaDoorTie
import Derived.WalkKit
import Derived.ProofKit
import Derived.OpenShut
import Derived.Deep.DeepHandedRow
import Derived.Deep.DeepWitnessRowRef
import Derived.Lib.LaidTab
import Derived.Stop.LaidErr
import Derived.ShutString
import Derived.Below
import Derived.ChangeMaps5
import Derived.Test.YtheifopckahdiaaDoorA02
set_option linter.unusedSimpArgs false
set_option linter.unusedVariables false
namespace Go.Rk
open Go Go.RowKit
def fileT (t : Nd) : Nd := bif validB t then foldT t else nd0
theorem validB_perm {t : Nd} (h : validB t = true) : permF t = true := by
  rw [validB, permB, Bool.and_eq_true, Bool.and_eq_true] at h; exact h.2.1
theorem ffile_ok (t : Nd) (v : Value) (D : Nat → Prop) (w : World) (hL : Laid w) (hb3 : 4 ≤ w.heap.size) (hk : Kd w D t.kids v) (hcn : count t ≤ 1000000) : Ret PP fn_fold_File #[ndV t v] w fun r w' => RetD (GE w.heap.size) (fileT t) r w' ∧ G w w' := by
  obtain ⟨p, c, rfl, hcap, hks⟩ := hk
  have hk0 : Kd w D t.kids (.slice p t.kids.length c) := ⟨p, c, rfl, hcap, hks⟩
  have g := G.refl w
  refine ret_of_sc (m := 9) func_fold_File rfl rfl [(0, True, _)] (sub_cons rfl (sub_nil _)) ?_
  refine sc_seq fun K1 hK1 => ?_
  refine sc_text [1, 1] ?_
  refine sr_box rfl (ev_t rfl) rfl ?_
  intro b1 w1 N1
  have l1 := N1.ge g
  have g := g.trans (N1.g)
  have B1 := N1.blk
  refine sr_alloc rfl ze_api_Node rfl ?_
  intro b2 w2 N2
  have x2_1 := N2.ne B1
  have l2 := N2.ge g
  have g := g.trans (N2.g)
  replace B1 := B1.grow (N2.g)
  have B2 := N2.blk
  refine sr_sub [(1, _, _), (2, _, _)] (sub_cons rfl (sub_cons rfl (sub_nil _))) ?_
  refine sr_nil (hK1 _ _ ?_)
  refine sc_seq fun K2 hK2 => ?_
  refine sc_seq fun K3 hK3 => ?_
  refine sc_text [0, 1, 3] ?_
  refine sr_rd rfl (rd_loads agg_api_Node (ev_t rfl) rfl (fun _ => B1.row)) ?_
  refine sr_pure rfl (rc_call go_syntax_Valid ev_f (args_cons (ev_t rfl) (args_nil)) rfl) (svalid_ok t _ D _ (hL.grow g) (by have := g.size; omega) (hk0.grow g) hcn) (fun w4 g4 => ?_)
  have g := g.trans (g4)
  replace B1 := B1.grow (g4)
  replace B2 := B2.grow (g4)
  refine sr_pu rfl (fun _ => rd_not (ev_t rfl)) ?_
  refine sr_sub [(1, _, _), (2, _, _), (5, _, _)] (sub_cons rfl (sub_cons rfl (sub_cons rfl (sub_nil _)))) ?_
  refine sr_nil (hK3 _ _ ?_)
  refine sc_cond (ev_t rfl) (fun h1 => ?_) (fun h1 => ?_)
  · replace h1 : validB t = false := by simpa using h1
    refine sc_seq fun K4 hK4 => ?_
    refine sc_text [3, 2] ?_
    refine sr_pu rfl (fun _ => rd_build [_, _, _, _, _, _, _, _, _] ze_api_Node rfl pl_api_Node (parts_nil) rfl) ?_
    refine sr_store_all rfl sz_api_Node (ev_t rfl) (ev_t rfl) rfl rfl B2 rfl rfl ?_
    intro wS1 hgS1 hzS1
    clear B2
    intro B2
    replace B1 := B1.keep hgS1 (by intro h; injection h with h; first | exact x2_1 h.symm | exact x1_2 h | omega)
    have g := g_only g hgS1 (by intro k hk; injection hk with hk; omega)
    try have hk5 := hk5.keep hgS1 (fun b hb _ he => by injection he with he; omega)
    refine sr_sub [(1, _, _), (2, _, _)] (sub_cons rfl (sub_cons rfl (sub_nil _))) ?_
    refine sr_nil (hK4 _ _ ?_)
    refine sc_ret (t_retv1 rfl (evr_c rfl agg_api_Node rfl (by first | exact B1.row | exact B2.row) (evr_nil)) ?_)
    refine ⟨?_, g⟩
    rw [fileT, h1]; exact retD_leaf _ nd0 _ rfl
  replace h1 : validB t = true := by simpa using h1
  refine sc_skip (hK2 _ _ ?_)
  refine sc_sub [(1, _, _), (2, _, _)] (sub_cons rfl (sub_cons rfl (sub_nil _))) ?_
  refine sc_seq fun K5 hK5 => ?_
  refine sc_text [0, 1, 2] ?_
  refine sr_rd rfl (rd_loads agg_api_Node (ev_t rfl) rfl (fun _ => B1.row)) ?_
  refine sr_call rfl (rc_call go_fold_fold ev_f (args_cons (ev_t rfl) (args_nil)) rfl) (ffold_ok t (validB_perm h1) hcn _ D _ (hk0.grow g)) ?_
  rintro v8 w8 ⟨⟨p5, c5, rfl, hk5⟩, g8⟩
  refine ⟨fun _ => g8, ?_⟩
  have hB2 := B2.lt
  have hlow := g.size
  have g := g.trans g8
  replace B1 := B1.grow (g8)
  replace B2 := B2.grow (g8)
  refine sr_store_all rfl sz_api_Node (ev_t rfl) (ev_t rfl) rfl rfl B2 rfl rfl ?_
  intro wS2 hgS2 hzS2
  clear B2
  intro B2
  replace B1 := B1.keep hgS2 (by intro h; injection h with h; first | exact x2_1 h.symm | exact x1_2 h | omega)
  have g := g_only g hgS2 (by intro k hk; injection hk with hk; omega)
  try have hk5 := hk5.keep hgS2 (fun b hb _ he => by injection he with he; omega)
  refine sr_sub [(2, _, _)] (sub_cons rfl (sub_nil _)) ?_
  refine sr_nil (hK5 _ _ ?_)
  refine sc_ret (t_retv1 rfl (evr_c rfl agg_api_Node rfl (by first | exact B1.row | exact B2.row) (evr_nil)) ?_)
  refine ⟨?_, g⟩
  rw [fileT, h1]; exact retD_of (hk5.mono fun b hb _ => Nat.le_trans hlow hb)
def binN (op : List UInt8) (a b : Nd) : Nd := .mk 32 op 0 0 [a, b] ty0 0 0
theorem lbinary_ok (op : List UInt8) (a b : Nd) (va vb : Value) (D D' : Nat → Prop) (w : World) (hka : Kd w D a.kids va) (hkb : Kd w D' b.kids vb) : Ret PP fn_l07_binary #[Str op, ndV a va, ndV b vb] w fun r w' => RetD (fun k => D k ∨ D' k ∨ w.heap.size ≤ k) (binN op a b) r w' ∧ G w w' := by
  have hka0 : Kd w (fun k => D k ∨ D' k ∨ w.heap.size ≤ k) a.kids va := hka.mono fun _ h _ => .inl h
  have hkb0 : Kd w (fun k => D k ∨ D' k ∨ w.heap.size ≤ k) b.kids vb := hkb.mono fun _ h _ => .inr (.inl h)
  obtain ⟨pa, ca, rfl, _⟩ := hka
  obtain ⟨pb', cb, rfl, _⟩ := hkb
  have g := G.refl w
  refine ret_of_sc (m := 12) func_l07_binary rfl rfl [(0, True, _), (1, True, _), (2, True, _)] (sub_cons rfl (sub_cons rfl (sub_cons rfl (sub_nil _)))) ?_
  refine sc_seq fun K1 hK1 => ?_
  refine sc_text [1, 1, 1] ?_
  refine sr_box rfl (ev_t rfl) rfl ?_
  intro b4 w4 N4
  have l4 := N4.ge g
  have g := g.trans (N4.g)
  have B4 := N4.blk
  refine sr_box rfl (ev_t rfl) rfl ?_
  intro b5 w5 N5
  have x5_4 := N5.ne B4
  have l5 := N5.ge g
  have g := g.trans (N5.g)
  replace B4 := B4.grow (N5.g)
  have B5 := N5.blk
  refine sr_alloc rfl ze_api_Node rfl ?_
  intro b6 w6 N6
  have x6_4 := N6.ne B4
  have x6_5 := N6.ne B5
  have l6 := N6.ge g
  have g := g.trans (N6.g)
  replace B4 := B4.grow (N6.g)
  replace B5 := B5.grow (N6.g)
  have B6 := N6.blk
  refine sr_sub [(0, _, _), (4, _, _), (5, _, _), (6, _, _)] (sub_cons rfl (sub_cons rfl (sub_cons rfl (sub_cons rfl (sub_nil _))))) ?_
  refine sr_nil (hK1 _ _ ?_)
  refine sc_seq fun K2 hK2 => ?_
  refine sc_text [3, 0, 0, 1, 3, 2] ?_
  refine sr_pu rfl (fun _ => rd_move (ev_t rfl)) ?_
  refine sr_rd rfl (rd_loads agg_api_Node (ev_t rfl) rfl (fun _ => B4.row)) ?_
  refine sr_rd rfl (rd_loads agg_api_Node (ev_t rfl) rfl (fun _ => B5.row)) ?_
  refine sr_buildSlice [_, _, _, _, _, _, _, _, _, _, _, _, _, _, _, _, _, _] rfl el_sl_api_Node ze_api_Node (parts_cons (ev_t rfl) (parts_cons (ev_t rfl) (parts_nil))) rfl rfl ?_
  intro b10 w10 N10
  have x10_4 := N10.ne B4
  have x10_5 := N10.ne B5
  have x10_6 := N10.ne B6
  have l10 := N10.ge g
  have g := g.trans (N10.g)
  replace B4 := B4.grow (N10.g)
  replace B5 := B5.grow (N10.g)
  replace B6 := B6.grow (N10.g)
  have B10 := N10.blk
  refine sr_pu rfl (fun _ => rd_build [_, _, _, _, _, _, _, _, _] ze_api_Node rfl pl_api_Node (parts_cons ev_c (parts_cons (ev_t rfl) (parts_cons (ev_t rfl) (parts_nil)))) rfl) ?_
  refine sr_store_all rfl sz_api_Node (ev_t rfl) (ev_t rfl) rfl rfl B6 rfl rfl ?_
  intro wS1 hgS1 hzS1
  clear B6
  intro B6
  replace B4 := B4.keep hgS1 (by intro h; injection h with h; first | exact x6_4 h.symm | exact x4_6 h | omega)
  replace B5 := B5.keep hgS1 (by intro h; injection h with h; first | exact x6_5 h.symm | exact x5_6 h | omega)
  replace B10 := B10.keep hgS1 (by intro h; injection h with h; first | exact x6_10 h.symm | exact x10_6 h | omega)
  have g := g_only g hgS1 (by intro k hk; injection hk with hk; omega)
  refine sr_sub [(6, _, _)] (sub_cons rfl (sub_nil _)) ?_
  refine sr_nil (hK2 _ _ ?_)
  refine sc_ret (t_retv1 rfl (evr_c rfl agg_api_Node rfl (by first | exact B4.row | exact B5.row | exact B6.row | exact B10.row) (evr_nil)) ?_)
  exact ⟨⟨_, _, rfl, kd_row (.inr (.inr l10)) B10.row (krow_cons (hka0.grow g) (krow_one (hkb0.grow g))) (Nat.le_refl _)⟩, g⟩
def nmN (n : Int) : Nd := .mk 24 [] n 0 [] ty0 0 0
def numT (v : Int) : Nd := bif decide (0 ≤ v) then nmN v else bif decide (v = -9223372036854775808) then binN [45] (unN (IntKind.i64.wrap (0 - (v + 1))) 0) (nmN 1) else unN (IntKind.i64.wrap (0 - v)) 0
theorem lnumber0_ok (v : Int) (w : World) (hv : v ≠ -9223372036854775808) : Ret PP fn_l07_number #[.int .i64 v] w fun r w' => RetD (GE w.heap.size) (numT v) r w' ∧ G w w' := by
  have g := G.refl w
  refine ret_of_sc (m := 19) func_l07_number rfl rfl [(0, True, _)] (sub_cons rfl (sub_nil _)) ?_
  refine sc_seq fun K1 hK1 => ?_
  refine sc_text [1] ?_
  refine sr_alloc rfl ze_api_Node rfl ?_
  intro b2 w2 N2
  have l2 := N2.ge g
  have g := g.trans (N2.g)
  have B2 := N2.blk
  refine sr_nil (hK1 _ _ ?_)
  refine sc_seq fun K2 hK2 => ?_
  refine sc_seq fun K3 hK3 => ?_
  refine sc_text [3, 3] ?_
  refine sr_pu rfl (fun _ => rd_move (ev_t rfl)) ?_
  refine sr_pu rfl (fun _ => rd_ge (ev_t rfl) ev_c) ?_
  refine sr_sub [(0, _, _), (2, _, _), (4, _, _)] (sub_cons rfl (sub_cons rfl (sub_cons rfl (sub_nil _)))) ?_
  refine sr_nil (hK3 _ _ ?_)
  refine sc_cond (ev_t rfl) (fun h1 => ?_) (fun h1 => ?_)
  · (try simp only [bsimp] at h1)
    refine sc_seq fun K4 hK4 => ?_
    refine sc_text [3, 3, 2] ?_
    refine sr_pu rfl (fun _ => rd_move (ev_t rfl)) ?_
    refine sr_pu rfl (fun _ => rd_build [_, _, _, _, _, _, _, _, _] ze_api_Node rfl pl_api_Node (parts_cons ev_c (parts_cons (ev_t rfl) (parts_nil))) rfl) ?_
    refine sr_store_all rfl sz_api_Node (ev_t rfl) (ev_t rfl) rfl rfl B2 rfl rfl ?_
    intro wS1 hgS1 hzS1
    clear B2
    intro B2
    have g := g_only g hgS1 (by intro k hk; injection hk with hk; omega)
    refine sr_sub [(0, _, _), (2, _, _)] (sub_cons rfl (sub_cons rfl (sub_nil _))) ?_
    refine sr_nil (hK4 _ _ ?_)
    refine sc_ret (t_retv1 rfl (evr_c rfl agg_api_Node rfl (by first | exact B2.row) (evr_nil)) ?_)
    refine ⟨?_, g⟩
    rw [numT, h1]; exact retD_leaf _ (nmN v) _ rfl
  (try simp only [bsimp] at h1)
  refine sc_skip (hK2 _ _ ?_)
  refine sc_sub [(0, _, _), (2, _, _)] (sub_cons rfl (sub_cons rfl (sub_nil _))) ?_
  refine sc_seq fun K5 hK5 => ?_
  refine sc_seq fun K6 hK6 => ?_
  refine sc_text [3, 3] ?_
  refine sr_pu rfl (fun _ => rd_move (ev_t rfl)) ?_
  refine sr_pu rfl (fun _ => rd_eq (ev_t rfl) ev_c) ?_
  refine sr_sub [(0, _, _), (2, _, _), (8, _, _)] (sub_cons rfl (sub_cons rfl (sub_cons rfl (sub_nil _)))) ?_
  refine sr_nil (hK6 _ _ ?_)
  refine sc_cond (ev_t rfl) (fun h2 => ?_) (fun h2 => ?_)
  · exfalso; exact hv (by simpa using h2)
    done
  (try simp only [bsimp] at h2)
  refine sc_skip (hK5 _ _ ?_)
  refine sc_sub [(0, _, _), (2, _, _)] (sub_cons rfl (sub_cons rfl (sub_nil _))) ?_
  refine sc_seq fun K7 hK7 => ?_
  refine sc_text [3, 3, 3, 1, 3, 2] ?_
  refine sr_pu rfl (fun _ => rd_move (ev_t rfl)) ?_
  refine sr_pu rfl (fun _ => rd_negw (ev_t rfl)) ?_
  refine sr_pu rfl (fun _ => rd_build [_, _, _, _, _, _, _, _, _] ze_api_Node rfl pl_api_Node (parts_cons ev_c (parts_cons (ev_t rfl) (parts_nil))) rfl) ?_
  refine sr_buildSlice [_, _, _, _, _, _, _, _, _] rfl el_sl_api_Node ze_api_Node (parts_cons (ev_t rfl) (parts_nil)) rfl rfl ?_
  intro b17 w17 N17
  have x17_2 := N17.ne B2
  have l17 := N17.ge g
  have g := g.trans (N17.g)
  replace B2 := B2.grow (N17.g)
  have B17 := N17.blk
  refine sr_pu rfl (fun _ => rd_build [_, _, _, _, _, _, _, _, _] ze_api_Node rfl pl_api_Node (parts_cons ev_c (parts_cons ev_c (parts_cons (ev_t rfl) (parts_nil)))) rfl) ?_
  refine sr_store_all rfl sz_api_Node (ev_t rfl) (ev_t rfl) rfl rfl B2 rfl rfl ?_
  intro wS2 hgS2 hzS2
  clear B2
  intro B2
  replace B17 := B17.keep hgS2 (by intro h; injection h with h; first | exact x2_17 h.symm | exact x17_2 h | omega)
  have g := g_only g hgS2 (by intro k hk; injection hk with hk; omega)
  refine sr_sub [(2, _, _)] (sub_cons rfl (sub_nil _)) ?_
  refine sr_nil (hK7 _ _ ?_)
  refine sc_ret (t_retv1 rfl (evr_c rfl agg_api_Node rfl (by first | exact B2.row | exact B17.row) (evr_nil)) ?_)
  refine ⟨?_, g⟩
  rw [numT, h1, h2]; exact ⟨_, _, rfl, kd_row l17 B17.row (krow_one (t := nmN (IntKind.i64.wrap (0 - v))) (kd_nil _ _)) (Nat.le_refl _)⟩
theorem lnumber1_ok (w : World) : Ret PP fn_l07_number #[.int .i64 (-9223372036854775808)] w fun r w' => RetD (GE w.heap.size) (numT (-9223372036854775808)) r w' ∧ G w w' := by
  have g := G.refl w
  refine ret_of_sc (m := 19) func_l07_number rfl rfl [(0, True, _)] (sub_cons rfl (sub_nil _)) ?_
  refine sc_seq fun K1 hK1 => ?_
  refine sc_text [1] ?_
  refine sr_alloc rfl ze_api_Node rfl ?_
  intro b2 w2 N2
  have l2 := N2.ge g
  have g := g.trans (N2.g)
  have B2 := N2.blk
  refine sr_nil (hK1 _ _ ?_)
  refine sc_seq fun K2 hK2 => ?_
  refine sc_seq fun K3 hK3 => ?_
  refine sc_text [3, 3] ?_
  refine sr_pu rfl (fun _ => rd_move (ev_t rfl)) ?_
  refine sr_pu rfl (fun _ => rd_ge (ev_t rfl) ev_c) ?_
  refine sr_sub [(0, _, _), (2, _, _), (4, _, _)] (sub_cons rfl (sub_cons rfl (sub_cons rfl (sub_nil _)))) ?_
  refine sr_nil (hK3 _ _ ?_)
  refine sc_cond (ev_t rfl) (fun h1 => ?_) (fun h1 => ?_)
  · exfalso; cases h1
    done
  (try simp only [bsimp] at h1)
  refine sc_skip (hK2 _ _ ?_)
  refine sc_sub [(0, _, _), (2, _, _)] (sub_cons rfl (sub_cons rfl (sub_nil _))) ?_
  refine sc_seq fun K4 hK4 => ?_
  refine sc_seq fun K5 hK5 => ?_
  refine sc_text [3, 3] ?_
  refine sr_pu rfl (fun _ => rd_move (ev_t rfl)) ?_
  refine sr_pu rfl (fun _ => rd_eq (ev_t rfl) ev_c) ?_
  refine sr_sub [(0, _, _), (2, _, _), (8, _, _)] (sub_cons rfl (sub_cons rfl (sub_cons rfl (sub_nil _)))) ?_
  refine sr_nil (hK5 _ _ ?_)
  refine sc_cond (ev_t rfl) (fun h2 => ?_) (fun h2 => ?_)
  · (try simp only [bsimp] at h2)
    refine sc_seq fun K6 hK6 => ?_
    refine sc_text [3, 3, 1, 1, 1, 2] ?_
    refine sr_pu rfl (fun _ => rd_move (ev_t rfl)) ?_
    refine sr_pu rfl (fun _ => rd_addw (ev_t rfl) ev_c) ?_
    refine sr_call rfl (rc_call go_l07_number ev_f (args_cons (ev_t rfl) (args_nil)) rfl) (lnumber0_ok _ _ (by decide)) ?_
    rintro v11 w11 ⟨⟨p11, c11, rfl, hk11⟩, g11⟩
    refine ⟨fun _ => g11, ?_⟩
    have hlow := g.size
    have hB2 := B2.lt
    have hl11 := g11.size
    have g := g.trans g11
    replace B2 := B2.grow (g11)
    refine sr_call rfl (rc_call go_l07_number ev_f (args_cons ev_c (args_nil)) rfl) (lnumber0_ok _ _ (by decide)) ?_
    rintro v12 w12 ⟨⟨p12, c12, rfl, hk12⟩, g12⟩
    refine ⟨fun _ => g12, ?_⟩
    have hl12 := g12.size
    have g := g.trans g12
    have hk11 := hk11.grow g12
    replace B2 := B2.grow (g12)
    refine sr_call rfl (rc_call go_l07_binary ev_f (args_cons ev_c (args_cons (ev_t rfl) (args_cons (ev_t rfl) (args_nil)))) rfl) (lbinary_ok _ _ _ _ _ _ _ _ hk11 hk12) ?_
    rintro v13 w13 ⟨⟨p13, c13, rfl, hk13⟩, g13⟩
    refine ⟨fun _ => g13, ?_⟩
    have g := g.trans g13
    have hk13 := hk13.mono (D' := GE w2.heap.size) fun b hb _ => by rcases hb with h | h | h <;> (have h : _ ≤ b := h; show w2.heap.size ≤ b; omega)
    replace B2 := B2.grow (g13)
    refine sr_store_all rfl sz_api_Node (ev_t rfl) (ev_t rfl) rfl rfl B2 rfl rfl ?_
    intro wS1 hgS1 hzS1
    clear B2
    intro B2
    have g := g_only g hgS1 (by intro k hk; injection hk with hk; omega)
    have hk13 := hk13.keep hgS1 (fun b hb _ he => by injection he with he; have hb : _ ≤ b := hb; omega)
    refine sr_sub [(0, _, _), (2, _, _)] (sub_cons rfl (sub_cons rfl (sub_nil _))) ?_
    refine sr_nil (hK6 _ _ ?_)
    refine sc_ret (t_retv1 rfl (evr_c rfl agg_api_Node rfl (by first | exact B2.row) (evr_nil)) ?_)
    exact ⟨⟨_, _, rfl, hk13.mono fun b hb _ => Nat.le_trans hlow hb⟩, g⟩
  exfalso; cases h2
  done
theorem lnumber_ok (v : Int) (w : World) : Ret PP fn_l07_number #[.int .i64 v] w fun r w' => RetD (GE w.heap.size) (numT v) r w' ∧ G w w' := by
  by_cases hv : v = -9223372036854775808
  · rw [hv]; exact lnumber1_ok w
  · exact lnumber0_ok v w hv
def prN (n : Nd) : Nd := .mk 21 [] 0 0 [n] ty0 0 0
def blN (n : Nd) : Nd := .mk 10 [] 0 0 [prN n] ty0 0 0
def paN : Nd := .mk 5 [] 0 0 [] ty0 0 0
def noN : Nd := .mk 9 [] 0 0 [] ty0 0 0
def fuN (n : Nd) : Nd := .mk 4 [102] 0 0 [paN, noN, blN n] ty0 0 0
def printT (n : Nd) : Nd := .mk 1 [] 0 0 [fuN n] ty0 0 0
set_option maxHeartbeats 4000000 in
theorem lprinting_ok (n : Nd) (v : Value) (D : Nat → Prop) (w : World) (hk : Kd w D n.kids v) : Ret PP fn_l07_printing #[ndV n v] w fun r w' => RetD (fun k => D k ∨ w.heap.size ≤ k) (printT n) r w' ∧ G w w' := by
  have hk0 : Kd w (fun k => D k ∨ w.heap.size ≤ k) n.kids v := hk.mono fun _ h _ => .inl h
  obtain ⟨p, c, rfl, _⟩ := hk
  have g := G.refl w
  refine ret_of_sc (m := 16) func_l07_printing rfl rfl [(0, True, _)] (sub_cons rfl (sub_nil _)) ?_
  refine sc_seq fun K1 hK1 => ?_
  refine sc_text [1, 1] ?_
  refine sr_box rfl (ev_t rfl) rfl ?_
  intro b1 w1 N1
  have l1 := N1.ge g
  have g := g.trans (N1.g)
  have B1 := N1.blk
  refine sr_alloc rfl ze_api_Node rfl ?_
  intro b2 w2 N2
  have x2_1 := N2.ne B1
  have l2 := N2.ge g
  have g := g.trans (N2.g)
  replace B1 := B1.grow (N2.g)
  have B2 := N2.blk
  refine sr_sub [(1, _, _), (2, _, _)] (sub_cons rfl (sub_cons rfl (sub_nil _))) ?_
  refine sr_nil (hK1 _ _ ?_)
  refine sc_seq fun K2 hK2 => ?_
  refine sc_text [0, 1, 3, 1, 3, 1, 2] ?_
  refine sr_rd rfl (rd_loads agg_api_Node (ev_t rfl) rfl (fun _ => B1.row)) ?_
  refine sr_buildSlice [_, _, _, _, _, _, _, _, _] rfl el_sl_api_Node ze_api_Node (parts_cons (ev_t rfl) (parts_nil)) rfl rfl ?_
  intro b5 w5 N5
  have x5_1 := N5.ne B1
  have x5_2 := N5.ne B2
  have l5 := N5.ge g
  have g := g.trans (N5.g)
  replace B1 := B1.grow (N5.g)
  replace B2 := B2.grow (N5.g)
  have B5 := N5.blk
  refine sr_pu rfl (fun _ => rd_build [_, _, _, _, _, _, _, _, _] ze_api_Node rfl pl_api_Node (parts_cons ev_c (parts_cons (ev_t rfl) (parts_nil))) rfl) ?_
  refine sr_buildSlice [_, _, _, _, _, _, _, _, _] rfl el_sl_api_Node ze_api_Node (parts_cons (ev_t rfl) (parts_nil)) rfl rfl ?_
  intro b7 w7 N7
  have x7_1 := N7.ne B1
  have x7_2 := N7.ne B2
  have x7_5 := N7.ne B5
  have l7 := N7.ge g
  have g := g.trans (N7.g)
  replace B1 := B1.grow (N7.g)
  replace B2 := B2.grow (N7.g)
  replace B5 := B5.grow (N7.g)
  have B7 := N7.blk
  refine sr_pu rfl (fun _ => rd_build [_, _, _, _, _, _, _, _, _] ze_api_Node rfl pl_api_Node (parts_cons ev_c (parts_cons (ev_t rfl) (parts_nil))) rfl) ?_
  refine sr_alloc rfl ze_api_Node rfl ?_
  intro b3 w3 N3
  have x3_1 := N3.ne B1
  have x3_2 := N3.ne B2
  have x3_5 := N3.ne B5
  have x3_7 := N3.ne B7
  have l3 := N3.ge g
  have g := g.trans (N3.g)
  replace B1 := B1.grow (N3.g)
  replace B2 := B2.grow (N3.g)
  replace B5 := B5.grow (N3.g)
  replace B7 := B7.grow (N3.g)
  have B3 := N3.blk
  refine sr_store_all rfl sz_api_Node (ev_t rfl) (ev_t rfl) rfl rfl B3 rfl rfl ?_
  intro wS1 hgS1 hzS1
  clear B3
  intro B3
  replace B1 := B1.keep hgS1 (by intro h; injection h with h; first | exact x3_1 h.symm | exact x1_3 h | omega)
  replace B2 := B2.keep hgS1 (by intro h; injection h with h; first | exact x3_2 h.symm | exact x2_3 h | omega)
  replace B5 := B5.keep hgS1 (by intro h; injection h with h; first | exact x3_5 h.symm | exact x5_3 h | omega)
  replace B7 := B7.keep hgS1 (by intro h; injection h with h; first | exact x3_7 h.symm | exact x7_3 h | omega)
  have g := g_only g hgS1 (by intro k hk; injection hk with hk; omega)
  refine sr_sub [(2, _, _), (3, _, _)] (sub_cons rfl (sub_cons rfl (sub_nil _))) ?_
  refine sr_nil (hK2 _ _ ?_)
  refine sc_seq fun K3 hK3 => ?_
  refine sc_text [3, 3, 0, 1, 3, 1, 3, 2] ?_
  refine sr_pu rfl (fun _ => rd_build [_, _, _, _, _, _, _, _, _] ze_api_Node rfl pl_api_Node (parts_cons ev_c (parts_nil)) rfl) ?_
  refine sr_pu rfl (fun _ => rd_build [_, _, _, _, _, _, _, _, _] ze_api_Node rfl pl_api_Node (parts_cons ev_c (parts_nil)) rfl) ?_
  refine sr_rd rfl (rd_loads agg_api_Node (ev_t rfl) rfl (fun _ => B3.row)) ?_
  refine sr_buildSlice [_, _, _, _, _, _, _, _, _, _, _, _, _, _, _, _, _, _, _, _, _, _, _, _, _, _, _] rfl el_sl_api_Node ze_api_Node (parts_cons (ev_t rfl) (parts_cons (ev_t rfl) (parts_cons (ev_t rfl) (parts_nil)))) rfl rfl ?_
  intro b12 w12 N12
  have x12_1 := N12.ne B1
  have x12_2 := N12.ne B2
  have x12_5 := N12.ne B5
  have x12_7 := N12.ne B7
  have x12_3 := N12.ne B3
  have l12 := N12.ge g
  have g := g.trans (N12.g)
  replace B1 := B1.grow (N12.g)
  replace B2 := B2.grow (N12.g)
  replace B5 := B5.grow (N12.g)
  replace B7 := B7.grow (N12.g)
  replace B3 := B3.grow (N12.g)
  have B12 := N12.blk
  refine sr_pu rfl (fun _ => rd_build [_, _, _, _, _, _, _, _, _] ze_api_Node rfl pl_api_Node (parts_cons ev_c (parts_cons ev_c (parts_cons (ev_t rfl) (parts_nil)))) rfl) ?_
  refine sr_buildSlice [_, _, _, _, _, _, _, _, _] rfl el_sl_api_Node ze_api_Node (parts_cons (ev_t rfl) (parts_nil)) rfl rfl ?_
  intro b14 w14 N14
  have x14_1 := N14.ne B1
  have x14_2 := N14.ne B2
  have x14_5 := N14.ne B5
  have x14_7 := N14.ne B7
  have x14_3 := N14.ne B3
  have x14_12 := N14.ne B12
  have l14 := N14.ge g
  have g := g.trans (N14.g)
  replace B1 := B1.grow (N14.g)
  replace B2 := B2.grow (N14.g)
  replace B5 := B5.grow (N14.g)
  replace B7 := B7.grow (N14.g)
  replace B3 := B3.grow (N14.g)
  replace B12 := B12.grow (N14.g)
  have B14 := N14.blk
  refine sr_pu rfl (fun _ => rd_build [_, _, _, _, _, _, _, _, _] ze_api_Node rfl pl_api_Node (parts_cons ev_c (parts_cons (ev_t rfl) (parts_nil))) rfl) ?_
  refine sr_store_all rfl sz_api_Node (ev_t rfl) (ev_t rfl) rfl rfl B2 rfl rfl ?_
  intro wS2 hgS2 hzS2
  clear B2
  intro B2
  replace B1 := B1.keep hgS2 (by intro h; injection h with h; first | exact x2_1 h.symm | exact x1_2 h | omega)
  replace B5 := B5.keep hgS2 (by intro h; injection h with h; first | exact x2_5 h.symm | exact x5_2 h | omega)
  replace B7 := B7.keep hgS2 (by intro h; injection h with h; first | exact x2_7 h.symm | exact x7_2 h | omega)
  replace B3 := B3.keep hgS2 (by intro h; injection h with h; first | exact x2_3 h.symm | exact x3_2 h | omega)
  replace B12 := B12.keep hgS2 (by intro h; injection h with h; first | exact x2_12 h.symm | exact x12_2 h | omega)
  replace B14 := B14.keep hgS2 (by intro h; injection h with h; first | exact x2_14 h.symm | exact x14_2 h | omega)
  have g := g_only g hgS2 (by intro k hk; injection hk with hk; omega)
  refine sr_sub [(2, _, _)] (sub_cons rfl (sub_nil _)) ?_
  refine sr_nil (hK3 _ _ ?_)
  refine sc_ret (t_retv1 rfl (evr_c rfl agg_api_Node rfl (by first | exact B1.row | exact B2.row | exact B5.row | exact B7.row | exact B3.row | exact B12.row | exact B14.row) (evr_nil)) ?_)
  have k5 := kd_one (.inr l5) B5 (hk0.grow g)
  have k7 := kd_one (t := prN n) (.inr l7) B7 k5
  have k12 : Kd _ _ [paN, noN, blN n] (.slice (some ⟨b12, 0, none⟩) 3 3) := kd_row (.inr l12) B12.row (krow_cons (t := paN) (kd_nil _ _) (krow_cons (t := noN) (kd_nil _ _) (krow_one (t := blN n) k7))) (Nat.le_refl _)
  have k14 := kd_one (t := fuN n) (.inr l14) B14 k12
  exact ⟨⟨_, _, rfl, k14⟩, g⟩
theorem nb1 {a : Bool} (h : (!a) = false) : a = true := by cases a; cases h; rfl
theorem nb2 {a b : Bool} (h : (!a || !b) = false) : a = true ∧ b = true := by cases a <;> cases b <;> first | exact ⟨rfl, rfl⟩ | cases h
theorem nb3 {a b c : Bool} (h : ((!a || !b) || !c) = false) : a = true ∧ b = true ∧ c = true := by cases a <;> cases b <;> cases c <;> first | exact ⟨rfl, rfl, rfl⟩ | cases h
theorem nb4 {a b c d : Bool} (h : (((!a || !b) || !c) || !d) = false) : a = true ∧ b = true ∧ c = true ∧ d = true := by cases a <;> cases b <;> cases c <;> cases d <;> first | exact ⟨rfl, rfl, rfl, rfl⟩ | cases h
def printedT (t : Nd) : Nd := bif ((!lenK t 1 || !lenK (kidAt t 0) 3) || !lenK (kidAt (kidAt t 0) 2) 1) || !lenK (kidAt (kidAt (kidAt t 0) 2) 0) 1 then nd0 else kidAt (kidAt (kidAt (kidAt t 0) 2) 0) 0
theorem lprinted_ok (t : Nd) (v : Value) (D : Nat → Prop) (w : World) (hk : Kd w D t.kids v) : Ret PP fn_l07_printed #[ndV t v] w fun r w' => RetD D (printedT t) r w' ∧ G w w' := by
  obtain ⟨p, c, rfl, hcap, hks⟩ := hk
  have hk0 : Kd w D t.kids (.slice p t.kids.length c) := ⟨p, c, rfl, hcap, hks⟩
  have g := G.refl w
  have h0x : ∃ p' c', lenK t 1 = true → p = some ⟨pb p, po p, none⟩ ∧ RowAt w (pb p) (po p + 0 * 9) (ndCells (kidAt t 0) (.slice p' (kidAt t 0).kids.length c')) ∧ Kd w D (kidAt t 0).kids (.slice p' (kidAt t 0).kids.length c') := by
    obtain ⟨p', c', h⟩ := kd_optx hk0 0
    exact ⟨p', c', fun hl => h (by (have hz := hl; first | (unfold lenK at hz; simp at hz; omega) | (simp at hz; omega)))⟩
  obtain ⟨p0, c0, h0x⟩ := h0x
  have h1x : ∃ p' c', lenK t 1 = true → lenK (kidAt t 0) 3 = true → p0 = some ⟨pb p0, po p0, none⟩ ∧ RowAt w (pb p0) (po p0 + 2 * 9) (ndCells (kidAt (kidAt t 0) 2) (.slice p' (kidAt (kidAt t 0) 2).kids.length c')) ∧ Kd w D (kidAt (kidAt t 0) 2).kids (.slice p' (kidAt (kidAt t 0) 2).kids.length c') := by
    by_cases hl : lenK t 1 = true
    · obtain ⟨p', c', h⟩ := kd_optx (h0x hl).2.2 2
      exact ⟨p', c', fun _ hl => h (by (have hz := hl; first | (unfold lenK at hz; simp at hz; omega) | (simp at hz; omega)))⟩
    · exact ⟨none, 0, fun h => absurd h hl⟩
  obtain ⟨p1, c1, h1x⟩ := h1x
  have h2x : ∃ p' c', lenK t 1 = true → lenK (kidAt t 0) 3 = true → lenK (kidAt (kidAt t 0) 2) 1 = true → p1 = some ⟨pb p1, po p1, none⟩ ∧ RowAt w (pb p1) (po p1 + 0 * 9) (ndCells (kidAt (kidAt (kidAt t 0) 2) 0) (.slice p' (kidAt (kidAt (kidAt t 0) 2) 0).kids.length c')) ∧ Kd w D (kidAt (kidAt (kidAt t 0) 2) 0).kids (.slice p' (kidAt (kidAt (kidAt t 0) 2) 0).kids.length c') := by
    by_cases hl : lenK t 1 = true
    · by_cases hl1 : lenK (kidAt t 0) 3 = true
      · obtain ⟨p', c', h⟩ := kd_optx (h1x hl hl1).2.2 0
        exact ⟨p', c', fun _ _ hl => h (by (have hz := hl; first | (unfold lenK at hz; simp at hz; omega) | (simp at hz; omega)))⟩
      · exact ⟨none, 0, fun _ h => absurd h hl1⟩
    · exact ⟨none, 0, fun h => absurd h hl⟩
  obtain ⟨p2, c2, h2x⟩ := h2x
  refine ret_of_sc (m := 57) func_l07_printed rfl rfl [(0, True, _)] (sub_cons rfl (sub_nil _)) ?_
  refine sc_seq fun K1 hK1 => ?_
  refine sc_text [1, 1] ?_
  refine sr_box rfl (ev_t rfl) rfl ?_
  intro b1 w1 N1
  have l1 := N1.ge g
  have g := g.trans (N1.g)
  have B1 := N1.blk
  refine sr_alloc rfl ze_api_Node rfl ?_
  intro b2 w2 N2
  have x2_1 := N2.ne B1
  have l2 := N2.ge g
  have g := g.trans (N2.g)
  replace B1 := B1.grow (N2.g)
  have B2 := N2.blk
  refine sr_sub [(1, _, _), (2, _, _)] (sub_cons rfl (sub_cons rfl (sub_nil _))) ?_
  refine sr_nil (hK1 _ _ ?_)
  refine sc_seq fun K2 hK2 => ?_
  refine sc_seq fun K3 hK3 => ?_
  refine sc_text [3, 0, 3, 3, 3, 3, 0, 3, 3, 0, 3, 3, 3, 3, 3, 0, 3, 3, 0, 3, 3, 0, 3, 3, 3, 3, 3, 0, 3, 3, 0, 3, 3, 0, 3, 3, 0, 3, 3, 3] ?_
  refine sr_pu rfl (fun _ => rd_field fo_api_Node_4 (ev_t rfl)) ?_
  refine sr_rd rfl (rd_load one_sl_api_Node (ev_t rfl) (fun _ => B1.at_ rfl)) ?_
  refine sr_pu rfl (fun _ => rd_len el_sl_api_Node (ev_t rfl)) ?_
  refine sr_pu rfl (fun _ => rd_ne (ev_t rfl) ev_c) ?_
  refine sr_pu rfl (fun _ => rd_move (ev_t rfl)) ?_
  refine sr_pug rfl rfl rfl (fun _ => rd_field fo_api_Node_4 (ev_t rfl)) ?_
  refine sr_rdg rfl rfl rfl (rd_load one_sl_api_Node (ev_u rfl id) (fun _ => B1.at_ rfl)) ?_
  refine sr_pug rfl rfl rfl (fun _ => rd_idxq el_sl_api_Node (ev_u rfl id) ev_c (fun hc => by (have hz := (nb1 hc.2); first | (unfold lenK at hz; simp at hz; omega) | (simp at hz; omega))) (fun hc => (h0x (nb1 hc.2)).1)) ?_
  refine sr_pug rfl rfl rfl (fun _ => rd_field fo_api_Node_4 (ev_u rfl id)) ?_
  refine sr_rdg rfl rfl rfl (rd_load one_sl_api_Node (ev_u rfl id) (fun hc => ((h0x (nb1 hc.2)).2.1.grow g) 4 _ rfl)) ?_
  refine sr_pug rfl rfl rfl (fun _ => rd_len el_sl_api_Node (ev_u rfl id)) ?_
  refine sr_pug rfl rfl rfl (fun _ => rd_ne (ev_u rfl id) ev_c) ?_
  refine sr_pu rfl (fun _ => rd_pick_or (ev_t rfl) (ev_u rfl id)) ?_
  refine sr_pu rfl (fun _ => rd_move (ev_t rfl)) ?_
  refine sr_pug rfl rfl rfl (fun _ => rd_field fo_api_Node_4 (ev_t rfl)) ?_
  refine sr_rdg rfl rfl rfl (rd_load one_sl_api_Node (ev_u rfl id) (fun _ => B1.at_ rfl)) ?_
  refine sr_pug rfl rfl rfl (fun _ => rd_idxq el_sl_api_Node (ev_u rfl id) ev_c (fun hc => by (have hz := (nb2 hc.2).1; first | (unfold lenK at hz; simp at hz; omega) | (simp at hz; omega))) (fun hc => (h0x (nb2 hc.2).1).1)) ?_
  refine sr_pug rfl rfl rfl (fun _ => rd_field fo_api_Node_4 (ev_u rfl id)) ?_
  refine sr_rdg rfl rfl rfl (rd_load one_sl_api_Node (ev_u rfl id) (fun hc => ((h0x (nb2 hc.2).1).2.1.grow g) 4 _ rfl)) ?_
  refine sr_pug rfl rfl rfl (fun _ => rd_idxq el_sl_api_Node (ev_u rfl id) ev_c (fun hc => by (have hz := (nb2 hc.2).2; first | (unfold lenK at hz; simp at hz; omega) | (simp at hz; omega))) (fun hc => (h1x (nb2 hc.2).1 (nb2 hc.2).2).1)) ?_
  refine sr_pug rfl rfl rfl (fun _ => rd_field fo_api_Node_4 (ev_u rfl id)) ?_
  refine sr_rdg rfl rfl rfl (rd_load one_sl_api_Node (ev_u rfl id) (fun hc => ((h1x (nb2 hc.2).1 (nb2 hc.2).2).2.1.grow g) 4 _ rfl)) ?_
  refine sr_pug rfl rfl rfl (fun _ => rd_len el_sl_api_Node (ev_u rfl id)) ?_
  refine sr_pug rfl rfl rfl (fun _ => rd_ne (ev_u rfl id) ev_c) ?_
  refine sr_pu rfl (fun _ => rd_pick_or (ev_t rfl) (ev_u rfl id)) ?_
  refine sr_pu rfl (fun _ => rd_move (ev_t rfl)) ?_
  refine sr_pug rfl rfl rfl (fun _ => rd_field fo_api_Node_4 (ev_t rfl)) ?_
  refine sr_rdg rfl rfl rfl (rd_load one_sl_api_Node (ev_u rfl id) (fun _ => B1.at_ rfl)) ?_
  refine sr_pug rfl rfl rfl (fun _ => rd_idxq el_sl_api_Node (ev_u rfl id) ev_c (fun hc => by (have hz := (nb3 hc.2).1; first | (unfold lenK at hz; simp at hz; omega) | (simp at hz; omega))) (fun hc => (h0x (nb3 hc.2).1).1)) ?_
  refine sr_pug rfl rfl rfl (fun _ => rd_field fo_api_Node_4 (ev_u rfl id)) ?_
  refine sr_rdg rfl rfl rfl (rd_load one_sl_api_Node (ev_u rfl id) (fun hc => ((h0x (nb3 hc.2).1).2.1.grow g) 4 _ rfl)) ?_
  refine sr_pug rfl rfl rfl (fun _ => rd_idxq el_sl_api_Node (ev_u rfl id) ev_c (fun hc => by (have hz := (nb3 hc.2).2.1; first | (unfold lenK at hz; simp at hz; omega) | (simp at hz; omega))) (fun hc => (h1x (nb3 hc.2).1 (nb3 hc.2).2.1).1)) ?_
  refine sr_pug rfl rfl rfl (fun _ => rd_field fo_api_Node_4 (ev_u rfl id)) ?_
  refine sr_rdg rfl rfl rfl (rd_load one_sl_api_Node (ev_u rfl id) (fun hc => ((h1x (nb3 hc.2).1 (nb3 hc.2).2.1).2.1.grow g) 4 _ rfl)) ?_
  refine sr_pug rfl rfl rfl (fun _ => rd_idxq el_sl_api_Node (ev_u rfl id) ev_c (fun hc => by (have hz := (nb3 hc.2).2.2; first | (unfold lenK at hz; simp at hz; omega) | (simp at hz; omega))) (fun hc => (h2x (nb3 hc.2).1 (nb3 hc.2).2.1 (nb3 hc.2).2.2).1)) ?_
  refine sr_pug rfl rfl rfl (fun _ => rd_field fo_api_Node_4 (ev_u rfl id)) ?_
  refine sr_rdg rfl rfl rfl (rd_load one_sl_api_Node (ev_u rfl id) (fun hc => ((h2x (nb3 hc.2).1 (nb3 hc.2).2.1 (nb3 hc.2).2.2).2.1.grow g) 4 _ rfl)) ?_
  refine sr_pug rfl rfl rfl (fun _ => rd_len el_sl_api_Node (ev_u rfl id)) ?_
  refine sr_pug rfl rfl rfl (fun _ => rd_ne (ev_u rfl id) ev_c) ?_
  refine sr_pu rfl (fun _ => rd_pick_or (ev_t rfl) (ev_u rfl id)) ?_
  refine sr_sub [(1, _, _), (2, _, _), (42, _, _)] (sub_cons rfl (sub_cons rfl (sub_cons rfl (sub_nil _)))) ?_
  refine sr_nil (hK3 _ _ ?_)
  refine sc_cond (ev_t rfl) (fun h1 => ?_) (fun h1 => ?_)
  · (try simp only [bsimp] at h1)
    refine sc_seq fun K4 hK4 => ?_
    refine sc_text [3, 2] ?_
    refine sr_pu rfl (fun _ => rd_build [_, _, _, _, _, _, _, _, _] ze_api_Node rfl pl_api_Node (parts_nil) rfl) ?_
    refine sr_store_all rfl sz_api_Node (ev_t rfl) (ev_t rfl) rfl rfl B2 rfl rfl ?_
    intro wS1 hgS1 hzS1
    clear B2
    intro B2
    replace B1 := B1.keep hgS1 (by intro h; injection h with h; first | exact x2_1 h.symm | exact x1_2 h | omega)
    have g := g_only g hgS1 (by intro k hk; injection hk with hk; omega)
    refine sr_sub [(1, _, _), (2, _, _)] (sub_cons rfl (sub_cons rfl (sub_nil _))) ?_
    refine sr_nil (hK4 _ _ ?_)
    refine sc_ret (t_retv1 rfl (evr_c rfl agg_api_Node rfl (by first | exact B1.row | exact B2.row) (evr_nil)) ?_)
    refine ⟨?_, g⟩
    rw [printedT, show (((!lenK t 1 || !lenK (kidAt t 0) 3) || !lenK (kidAt (kidAt t 0) 2) 1) || !lenK (kidAt (kidAt (kidAt t 0) 2) 0) 1) = true from h1]; exact retD_leaf _ nd0 _ rfl
  obtain ⟨q0, q1, q2, q3⟩ := nb4 h1
  obtain ⟨e0, r0, k0⟩ := h0x q0
  obtain ⟨e1, r1, k1⟩ := h1x q0 q1
  obtain ⟨e2, r2, k2⟩ := h2x q0 q1 q2
  have q0 : t.kids.length = 1 := by (have hz := q0; first | (unfold lenK at hz; simp at hz; omega) | (simp at hz; omega))
  have q1 : (kidAt t 0).kids.length = 3 := by (have hz := q1; first | (unfold lenK at hz; simp at hz; omega) | (simp at hz; omega))
  have q2 : (kidAt (kidAt t 0) 2).kids.length = 1 := by (have hz := q2; first | (unfold lenK at hz; simp at hz; omega) | (simp at hz; omega))
  have q3 : (kidAt (kidAt (kidAt t 0) 2) 0).kids.length = 1 := by (have hz := q3; first | (unfold lenK at hz; simp at hz; omega) | (simp at hz; omega))
  obtain ⟨e3, p3, c3, r3, k3⟩ := kd_opt k2 (i := 0) (by omega)
  refine sc_skip (hK2 _ _ ?_)
  refine sc_sub [(1, _, _), (2, _, _)] (sub_cons rfl (sub_cons rfl (sub_nil _))) ?_
  refine sc_seq fun K5 hK5 => ?_
  refine sc_text [3, 0, 3, 3, 0, 3, 3, 0, 3, 3, 0, 3, 0, 2] ?_
  refine sr_pu rfl (fun _ => rd_field fo_api_Node_4 (ev_t rfl)) ?_
  refine sr_rd rfl (rd_load one_sl_api_Node (ev_t rfl) (fun _ => B1.at_ rfl)) ?_
  refine sr_pu rfl (fun _ => rd_idxq el_sl_api_Node (ev_t rfl) ev_c (fun _ => by omega) (fun _ => e0)) ?_
  refine sr_pu rfl (fun _ => rd_field fo_api_Node_4 (ev_t rfl)) ?_
  refine sr_rd rfl (rd_load one_sl_api_Node (ev_t rfl) (fun _ => (r0.grow g) 4 _ rfl)) ?_
  refine sr_pu rfl (fun _ => rd_idxq el_sl_api_Node (ev_t rfl) ev_c (fun _ => by omega) (fun _ => e1)) ?_
  refine sr_pu rfl (fun _ => rd_field fo_api_Node_4 (ev_t rfl)) ?_
  refine sr_rd rfl (rd_load one_sl_api_Node (ev_t rfl) (fun _ => (r1.grow g) 4 _ rfl)) ?_
  refine sr_pu rfl (fun _ => rd_idxq el_sl_api_Node (ev_t rfl) ev_c (fun _ => by omega) (fun _ => e2)) ?_
  refine sr_pu rfl (fun _ => rd_field fo_api_Node_4 (ev_t rfl)) ?_
  refine sr_rd rfl (rd_load one_sl_api_Node (ev_t rfl) (fun _ => (r2.grow g) 4 _ rfl)) ?_
  refine sr_pu rfl (fun _ => rd_idxq el_sl_api_Node (ev_t rfl) ev_c (fun _ => by omega) (fun _ => e3)) ?_
  refine sr_rd rfl (rd_loads agg_api_Node (ev_t rfl) rfl (fun _ => r3.grow g)) ?_
  refine sr_store_all rfl sz_api_Node (ev_t rfl) (ev_t rfl) rfl rfl B2 rfl rfl ?_
  intro wS2 hgS2 hzS2
  clear B2
  intro B2
  replace B1 := B1.keep hgS2 (by intro h; injection h with h; first | exact x2_1 h.symm | exact x1_2 h | omega)
  have g := g_only g hgS2 (by intro k hk; injection hk with hk; omega)
  refine sr_sub [(2, _, _)] (sub_cons rfl (sub_nil _)) ?_
  refine sr_nil (hK5 _ _ ?_)
  refine sc_ret (t_retv1 rfl (evr_c rfl agg_api_Node rfl (by first | exact B1.row | exact B2.row) (evr_nil)) ?_)
  refine ⟨?_, g⟩
  rw [printedT, show (((!lenK t 1 || !lenK (kidAt t 0) 3) || !lenK (kidAt (kidAt t 0) 2) 1) || !lenK (kidAt (kidAt (kidAt t 0) 2) 0) 1) = false from h1]; exact retD_of (k3.grow g)
end Go.Rk
namespace Go.Rk
open Go Go.RowKit
def xN : Nd := .mk 27 [120] 0 0 [] ty0 0 0
def aw1 : Nd := binN [45] (numT 1) (numT 3)
def aw2 : Nd := binN [47] (numT 1) (numT 0)
def aw3 : Nd := binN [43] (binN [42] (numT 2) (numT 3)) xN
def aw4 : Nd := binN [43] (numT 6) xN
theorem aw1_v : valC aw1 = ((false, -2), true) := by decide +kernel
theorem aw2_v : (valC aw2).2 = false := by decide +kernel
theorem aw3_c : count (printT aw3) ≤ 1000000 := by decide +kernel
theorem aw5_c : count (printedT (fileT (printT aw3))) ≤ 1000000 := by decide +kernel
theorem aw4_e : eqB (printedT (fileT (printT aw3))) aw4 = true := by decide +kernel
theorem awake7_ok (w : World) (hL : Laid w) (hb3 : 4 ≤ w.heap.size) : Ret PP fn_l07_awake #[] w fun v w' => v = .bool true ∧ G w w' := by
  have g := G.refl w
  refine ret_of_sc (m := 44) func_l07_awake rfl rfl [] (sub_nil _) ?_
  refine sc_seq fun K1 hK1 => ?_
  refine sc_text [3] ?_
  refine sr_pu rfl (fun _ => rd_assign ev_c) ?_
  refine sr_nil (hK1 _ _ ?_)
  refine sc_seq fun K2 hK2 => ?_
  refine sc_text [1, 1, 1, 1, 3, 3, 3, 3, 3] ?_
  refine sr_call rfl (rc_call go_l07_number ev_f (args_cons ev_c (args_nil)) rfl) (lnumber_ok _ _) ?_
  rintro v7 w7 ⟨⟨p7, c7, rfl, hk7⟩, g7⟩
  refine ⟨fun _ => g7, ?_⟩
  have g := g.trans g7
  refine sr_call rfl (rc_call go_l07_number ev_f (args_cons ev_c (args_nil)) rfl) (lnumber_ok _ _) ?_
  rintro v8 w8 ⟨⟨p8, c8, rfl, hk8⟩, g8⟩
  refine ⟨fun _ => g8, ?_⟩
  have g := g.trans g8
  refine sr_call rfl (rc_call go_l07_binary ev_f (args_cons ev_c (args_cons (ev_t rfl) (args_cons (ev_t rfl) (args_nil)))) rfl) (lbinary_ok _ _ _ _ _ _ _ _ (hk7.grow g8) hk8) ?_
  rintro v9 w9 ⟨⟨p9, c9, rfl, hk9⟩, g9⟩
  refine ⟨fun _ => g9, ?_⟩
  have g := g.trans g9
  refine sr_pure rfl (rc_call go_fold_Value ev_f (args_cons (ev_t rfl) (args_nil)) rfl) (fValue_ok aw1 _ _ _ hk9) (fun w10 g10 => ?_)
  have g := g.trans (g10)
  try have hk24 := hk24.grow (g10)
  refine sr_pu rfl (fun _ => rd_move (ev_t rfl)) ?_
  refine sr_pu rfl (fun _ => rd_extract (ev_t rfl) rfl) ?_
  refine sr_pu rfl (fun _ => rd_extract (ev_t rfl) rfl) ?_
  refine sr_pu rfl (fun _ => rd_assign (ev_t rfl)) ?_
  refine sr_pu rfl (fun _ => rd_assign (ev_t rfl)) ?_
  refine sr_sub [(0, _, _), (1, _, _), (2, _, _)] (sub_cons rfl (sub_cons rfl (sub_cons rfl (sub_nil _)))) ?_
  refine sr_nil (hK2 _ _ ?_)
  refine sc_seq fun K3 hK3 => ?_
  refine sc_text [1, 1, 1, 1, 3, 3, 3, 3, 3] ?_
  refine sr_call rfl (rc_call go_l07_number ev_f (args_cons ev_c (args_nil)) rfl) (lnumber_ok _ _) ?_
  rintro v14 w14 ⟨⟨p14, c14, rfl, hk14⟩, g14⟩
  refine ⟨fun _ => g14, ?_⟩
  have g := g.trans g14
  refine sr_call rfl (rc_call go_l07_number ev_f (args_cons ev_c (args_nil)) rfl) (lnumber_ok _ _) ?_
  rintro v15 w15 ⟨⟨p15, c15, rfl, hk15⟩, g15⟩
  refine ⟨fun _ => g15, ?_⟩
  have g := g.trans g15
  refine sr_call rfl (rc_call go_l07_binary ev_f (args_cons ev_c (args_cons (ev_t rfl) (args_cons (ev_t rfl) (args_nil)))) rfl) (lbinary_ok _ _ _ _ _ _ _ _ (hk14.grow g15) hk15) ?_
  rintro v16 w16 ⟨⟨p16, c16, rfl, hk16⟩, g16⟩
  refine ⟨fun _ => g16, ?_⟩
  have g := g.trans g16
  refine sr_pure rfl (rc_call go_fold_Value ev_f (args_cons (ev_t rfl) (args_nil)) rfl) (fValue_ok aw2 _ _ _ hk16) (fun w17 g17 => ?_)
  have g := g.trans (g17)
  try have hk24 := hk24.grow (g17)
  refine sr_pu rfl (fun _ => rd_move (ev_t rfl)) ?_
  refine sr_pu rfl (fun _ => rd_extract (ev_t rfl) rfl) ?_
  refine sr_pu rfl (fun _ => rd_extract (ev_t rfl) rfl) ?_
  refine sr_pu rfl (fun _ => rd_assign (ev_t rfl)) ?_
  refine sr_pu rfl (fun _ => rd_assign (ev_t rfl)) ?_
  refine sr_sub [(0, _, _), (1, _, _), (2, _, _), (4, _, _)] (sub_cons rfl (sub_cons rfl (sub_cons rfl (sub_cons rfl (sub_nil _))))) ?_
  refine sr_nil (hK3 _ _ ?_)
  refine sc_seq fun K4 hK4 => ?_
  refine sc_text [1, 1, 1, 3, 1, 1, 2] ?_
  refine sr_call rfl (rc_call go_l07_number ev_f (args_cons ev_c (args_nil)) rfl) (lnumber_ok _ _) ?_
  rintro v20 w20 ⟨⟨p20, c20, rfl, hk20⟩, g20⟩
  refine ⟨fun _ => g20, ?_⟩
  have g := g.trans g20
  refine sr_call rfl (rc_call go_l07_number ev_f (args_cons ev_c (args_nil)) rfl) (lnumber_ok _ _) ?_
  rintro v21 w21 ⟨⟨p21, c21, rfl, hk21⟩, g21⟩
  refine ⟨fun _ => g21, ?_⟩
  have g := g.trans g21
  refine sr_call rfl (rc_call go_l07_binary ev_f (args_cons ev_c (args_cons (ev_t rfl) (args_cons (ev_t rfl) (args_nil)))) rfl) (lbinary_ok _ _ _ _ _ _ _ _ (hk20.grow g21) hk21) ?_
  rintro v22 w22 ⟨⟨p22, c22, rfl, hk22⟩, g22⟩
  refine ⟨fun _ => g22, ?_⟩
  have g := g.trans g22
  refine sr_pu rfl (fun _ => rd_build [_, _, _, _, _, _, _, _, _] ze_api_Node rfl pl_api_Node (parts_cons ev_c (parts_cons ev_c (parts_nil))) rfl) ?_
  refine sr_call rfl (rc_call go_l07_binary ev_f (args_cons ev_c (args_cons (ev_t rfl) (args_cons (ev_t rfl) (args_nil)))) rfl) (lbinary_ok _ _ xN _ _ _ (fun _ => False) _ hk22 (kd_nil _ _)) ?_
  rintro v24 w24 ⟨⟨p24, c24, rfl, hk24⟩, g24⟩
  refine ⟨fun _ => g24, ?_⟩
  have g := g.trans g24
  have hk24 := hk24.lt
  refine sr_alloc rfl ze_api_Node rfl ?_
  intro b5 w5 N5
  have l5 := N5.ge g
  have g := g.trans (N5.g)
  try have hk24 := hk24.grow (N5.g)
  have B5 := N5.blk
  refine sr_store_all rfl sz_api_Node (ev_t rfl) (ev_t rfl) rfl rfl B5 rfl rfl ?_
  intro wS1 hgS1 hzS1
  clear B5
  intro B5
  have g := g_only g hgS1 (by intro k hk; injection hk with hk; omega)
  have hk24 := hk24.keep hgS1 (fun b hb _ he => by injection he with he; have hb := hb.2; have := N5.at_; omega)
  refine sr_sub [(0, _, _), (1, _, _), (2, _, _), (4, _, _), (5, _, _)] (sub_cons rfl (sub_cons rfl (sub_cons rfl (sub_cons rfl (sub_cons rfl (sub_nil _)))))) ?_
  refine sr_nil (hK4 _ _ ?_)
  refine sc_seq fun K5 hK5 => ?_
  refine sc_text [3, 3, 3, 3, 3, 3, 3, 3, 3, 3, 0, 1, 1, 1, 1, 3, 1, 1, 3, 3] ?_
  rw [aw1_v, aw2_v]
  refine sr_pu rfl (fun _ => rd_move (ev_t rfl)) ?_
  refine sr_pu rfl (fun _ => rd_eq (ev_t rfl) ev_c) ?_
  refine sr_pu rfl (fun _ => rd_move (ev_t rfl)) ?_
  refine sr_pug rfl rfl rfl (fun _ => rd_move (ev_t rfl)) ?_
  refine sr_pu rfl (fun _ => rd_pick_and (ev_t rfl) (ev_u rfl id)) ?_
  refine sr_pu rfl (fun _ => rd_move (ev_t rfl)) ?_
  refine sr_pug rfl rfl rfl (fun _ => rd_move (ev_t rfl)) ?_
  refine sr_pug rfl rfl rfl (fun _ => rd_not (ev_u rfl id)) ?_
  refine sr_pu rfl (fun _ => rd_pick_and (ev_t rfl) (ev_u rfl id)) ?_
  refine sr_pu rfl (fun _ => rd_move (ev_t rfl)) ?_
  refine sr_rdg rfl rfl rfl (rd_loads agg_api_Node (ev_t rfl) rfl (fun _ => B5.row)) ?_
  refine sr_callq rfl rfl rfl (fun _ => rc_call go_l07_printing ev_f (args_cons (ev_u rfl id) (args_nil)) rfl) (fun hc => lprinting_ok aw3 _ _ _ hk24) ?_
  intro v36 w36 hv36 g36
  have g := g.trans (g36)
  replace B5 := B5.grow (g36)
  try have hk24 := hk24.grow (g36)
  refine sr_callq rfl rfl rfl (fun _ => rc_call go_fold_File ev_f (args_cons (ev_u rfl id) (args_nil)) rfl) (fun hc => (by obtain ⟨p, c, e, hk⟩ := hv36 hc; rw [e]; exact ffile_ok (printT aw3) _ _ _ (hL.grow g) (by have := g.size; omega) hk aw3_c)) ?_
  intro v37 w37 hv37 g37
  have g := g.trans (g37)
  replace B5 := B5.grow (g37)
  try have hk24 := hk24.grow (g37)
  refine sr_callq rfl rfl rfl (fun _ => rc_call go_l07_printed ev_f (args_cons (ev_u rfl id) (args_nil)) rfl) (fun hc => (by obtain ⟨p, c, e, hk⟩ := hv37 hc; rw [e]; exact lprinted_ok _ _ _ _ hk)) ?_
  intro v38 w38 hv38 g38
  have g := g.trans (g38)
  replace B5 := B5.grow (g38)
  try have hk24 := hk24.grow (g38)
  refine sr_callq rfl rfl rfl (fun _ => rc_call go_l07_number ev_f (args_cons ev_c (args_nil)) rfl) (fun hc => lnumber_ok _ _) ?_
  intro v39 w39 hv39 g39
  have g := g.trans (g39)
  replace B5 := B5.grow (g39)
  try have hk24 := hk24.grow (g39)
  refine sr_pug rfl rfl rfl (fun _ => rd_build [_, _, _, _, _, _, _, _, _] ze_api_Node rfl pl_api_Node (parts_cons ev_c (parts_cons ev_c (parts_nil))) rfl) ?_
  refine sr_callq rfl rfl rfl (fun _ => rc_call go_l07_binary ev_f (args_cons ev_c (args_cons (ev_u rfl id) (args_cons (ev_u rfl id) (args_nil)))) rfl) (fun hc => (by obtain ⟨p, c, e, hk⟩ := hv39 hc; rw [e]; exact lbinary_ok _ _ xN _ _ _ (fun _ => False) _ hk (kd_nil _ _))) ?_
  intro v41 w41 hv41 g41
  have g := g.trans (g41)
  replace B5 := B5.grow (g41)
  try have hk24 := hk24.grow (g41)
  refine sr_pureg rfl rfl rfl (fun _ => (rc_call go_r03_Equal ev_f (args_cons (ev_u rfl id) (args_cons (ev_u rfl id) (args_nil))) rfl)) (fun hc => (show Ret PP _ _ w41 (fun r w' => r = .bool (eqB (printedT (fileT (printT aw3))) aw4) ∧ G w41 w') from by obtain ⟨p, c, e, hk⟩ := hv38 hc; obtain ⟨p', c', e', hk'⟩ := hv41 hc; rw [e, e']; exact requal_ok _ _ _ _ _ _ _ (hk.grow (g39.trans g41)) hk' aw5_c)) (fun w42 g42 => ?_)
  have g := g.trans (g42)
  replace B5 := B5.grow (g42)
  try have hk24 := hk24.grow (g42)
  refine sr_pu rfl (fun _ => rd_pick_and (ev_t rfl) (ev_u rfl id)) ?_
  refine sr_pu rfl (fun _ => rd_assign (ev_t rfl)) ?_
  refine sr_sub [(0, _, _)] (sub_cons rfl (sub_nil _)) ?_
  refine sr_nil (hK5 _ _ ?_)
  refine sc_ret (t_ret1 rfl rfl ?_)
  refine ⟨congrArg Value.bool ?_, g⟩
  rw [aw4_e]; rfl
end Go.Rk
namespace Go.Rk
open Go Go.RowKit
/-- The value, if there is one. -/
def valO (t : Nd) : Option Cst := bif (valC t).2 then some (valC t).1 else none
def oneO (t : Nd) (x : Option Cst) : Option Cst := match x with
  | some c => bif decide (t.text = [45]) && !c.1 then some (false, IntKind.i64.wrap (0 - c.2)) else bif decide (t.text = [33]) && c.1 then some (true, IntKind.i64.wrap (1 - c.2)) else none
  | none => none
def twoO (op : List UInt8) (x y : Option Cst) : Option Cst := match x, y with
  | some a, some b => bif a.1 == b.1 then (bif (binF op a b).2 then some (binF op a b).1 else none) else none
  | _, _ => none
def oF (t : Nd) (r : Nat → Option Cst) : Option Cst :=
  bif decide (t.kind = 24) then (bif (decide (0 ≤ t.num) && plainB t) && lenK t 0 then some (false, t.num) else none)
  else bif decide (t.kind = 25) then (bif ((decide (t.num = 0) || decide (t.num = 1)) && plainB t) && lenK t 0 then some (true, t.num) else none)
  else bif decide (t.kind = 31) && lenK t 1 then oneO t (r 0)
  else bif decide (t.kind = 32) && lenK t 2 then twoO t.text (r 0) (r 1)
  else none
theorem valO_eq (t : Nd) : valO t = oF t fun i => valO (kidAt t i) := by
  rw [valO, valC_eq, valF, oF]
  cases decide (t.kind = 24) with
  | true => rfl
  | false =>
  cases decide (t.kind = 25) with
  | true => rfl
  | false =>
  cases decide (t.kind = 31) && lenK t 1 with
  | true =>
    simp only [cond_true, cond_false, valO, oneO]
    cases (valC (kidAt t 0)).2 with
    | false => rfl
    | true =>
      simp only [Bool.true_and, cond_true]
      cases decide (t.text = [45]) <;> cases decide (t.text = [33]) <;> cases (valC (kidAt t 0)).1.1 <;> rfl
  | false =>
  cases decide (t.kind = 32) && lenK t 2 with
  | true =>
    simp only [cond_true, cond_false, valO, twoO]
    cases (valC (kidAt t 0)).2 <;> cases (valC (kidAt t 1)).2 <;> first | rfl | skip
    simp only [Bool.true_and, cond_true]
    cases (valC (kidAt t 0)).1.1 == (valC (kidAt t 1)).1.1 <;> rfl
  | false => rfl
theorem valO_iff {t : Nd} {c : Cst} : valO t = some c ↔ (valC t).2 = true ∧ (valC t).1 = c := by
  rw [valO]; cases (valC t).2 <;> simp
def RngOk (x : Cst × Bool) : Prop := rng x.1.2
def RO (x : Option Cst) : Prop := ∀ c, x = some c → rng c.2
/-! replaced constants -/
def nmP (n pos : Int) : Nd := .mk 24 [] n pos [] ty0 0 0
def boP (n pos : Int) : Nd := .mk 25 [] n pos [] ty0 0 0
theorem valO_nm {n pos : Int} (h : 0 ≤ n) : valO (nmP n pos) = some (false, n) := by
  rw [valO_eq]; show (bif (decide (0 ≤ n) && true) && true then some (false, n) else none) = some (false, n)
  rw [decide_eq_true h]; rfl
theorem valO_un {n pos : Int} (h : 0 ≤ n) : valO (unN n pos) = some (false, IntKind.i64.wrap (0 - n)) := by
  rw [valO_eq]; show oneO (unN n pos) (valO (nmP n pos)) = _
  rw [valO_nm h]; rfl
/-! folded trees, case by case -/
def rebT (t : Nd) : Nd := .mk t.kind t.text (bif decide (t.kind = 24) || decide (t.kind = 25) then t.num else 0) t.pos (t.kids.map foldT) ty0 0 0
def blP (pos : Int) : Nd := .mk 10 [] 0 pos [] ty0 0 0
end Go.Rk
namespace Go.Rk
open Go Go.RowKit
/-- How the kind of a node may change. -/
def KindR (a b : Int) : Prop := b = a ∨ (a = 18 ∧ b = 10) ∨ ((a = 24 ∨ a = 25 ∨ a = 31 ∨ a = 32) ∧ (b = 24 ∨ b = 25 ∨ b = 31))
/-- Conditions on kinds that folding keeps. -/
def Clo (q : Int → Bool) : Prop := (q 18 = true → q 10 = true) ∧ ((q 24 || q 25 || q 31 || q 32) = true → q 24 = true ∧ q 25 = true ∧ q 31 = true)
end Go.Rk
namespace Go.Rk
open Go Go.RowKit
set_option linter.unusedVariables false
def tyArrN (P : Program) (t : TypeId) : Option (Nat × Nat) := match P.underlying t with
  | some (.array m e) => (P.info? e).map fun i => (m, i.size)
  | _ => none
section
variable {P : Program} {n : Nat} {σ : List Ent} {c : Prop} {wb : World} {ty : TypeId}
theorem rd_buildarr {t m z : Nat} {ps : Array (Nat × Operand)} {vs : List (Nat × Value)} {zv : Value} (l : List Value) (ht : tyArrN P t = some (m, z)) (hz : zeroOf P t = some zv) (hx : EvParts n σ c ps vs)
    (hs : Nat.beq zv.cells.size (vs.length * z) = true) (hf : fillS z 0 vs = some l) : Rd P n σ c wb (.build t ps) ty (.agg l.toArray) := fun d pos after g a ha hc w1 _ => by
  obtain ⟨i, hi, hz'⟩ := zero_info hz
  have hs := Nat.eq_of_beq_eq_true hs
  have hfill : Instr.fill (fun i => some (i * z, z)) zv.cells vs = some l.toArray := by
    have h1 := fillS_list z vs 0 [] zv.cells.toList l hf (by simp) (by simp [hs]) (by simp)
    have := fill_list _ _ _ _ h1
    rwa [Array.toArray_toList] at this
  unfold tyArrN at ht
  split at ht
  · rename_i m' e hu
    cases hi2 : P.info? e with
    | none => rw [hi2] at ht; cases ht
    | some inf =>
      rw [hi2] at ht; injection ht with ht; injection ht with ht1 ht2
      have hx' := hx a ha hc
      simp only [execOp, Instr.build, Sem.run_bind, zeroValue, typeInfo, run_program, Result.andThen_ok, hi, hz', Sem.run_pure, run_underlying hu, sizeOf, hi2, ht2]
      rw [hx', hfill]
      simp
  · cases ht
theorem rd_aptr {t m : Nat} {x y : Operand} {b o : Nat} {k : IntKind} {i : Int} (ht : tyArrN P t = some (m, 1)) (h : Ev n σ c x (.pointer (some ⟨b, o, none⟩))) (h' : Ev n σ c y (.int k i)) (hi : c → 0 ≤ i ∧ i < m) :
    Rd P n σ c wb (.indexAddr t x y) ty (.pointer (some ⟨b, o + i.toNat, none⟩)) := fun d pos after gd a ha hc w1 _ => by
  obtain ⟨h0, h1⟩ := hi hc
  unfold tyArrN at ht
  split at ht
  · rename_i m' e hu
    cases hi2 : P.info? e with
    | none => rw [hi2] at ht; cases ht
    | some inf =>
      rw [hi2] at ht; injection ht with ht; injection ht with ht1 ht2
      subst ht1
      simp [execOp, h a ha hc, h' a ha hc, Instr.indexAt, asIntOf, run_underlying hu, Instr.sureAddr, h0, h1, sizeOf, typeInfo, run_program, hi2, ht2, Addr.add_lit]
  · cases ht
end
end Go.Rk
namespace Go.Rk
open Go Go.RowKit
theorem valO_num {v : Int} (h : rng v) : valO (numT v) = some (false, v) := by
  unfold rng at h
  unfold numT
  by_cases h0 : 0 ≤ v
  · rw [decide_eq_true h0]; exact valO_nm h0
  · rw [decide_eq_false h0]
    by_cases h1 : v = -9223372036854775808
    · rw [h1]; decide +kernel
    · rw [decide_eq_false h1]
      show valO (unN (IntKind.i64.wrap (0 - v)) 0) = _
      rw [i64_id ⟨by omega, by omega⟩, valO_un (by omega), i64_id ⟨by omega, by omega⟩]
      congr 2; omega
theorem valC_num {v : Int} (h : rng v) : valC (numT v) = ((false, v), true) := by
  obtain ⟨h1, h2⟩ := valO_iff.1 (valO_num h)
  exact Prod.ext h2 h1
/-- The value of an operation on two numbers. -/
theorem valC_bin {op : List UInt8} {a b : Int} (ha : rng a) (hb : rng b) : valC (binN op (numT a) (numT b)) = binF op (false, a) (false, b) := by
  rw [valC_eq]
  show (bif ((valC (numT a)).2 && (valC (numT b)).2) && ((valC (numT a)).1.1 == (valC (numT b)).1.1) then binF op (valC (numT a)).1 (valC (numT b)).1 else zc) = _
  rw [valC_num ha, valC_num hb]; rfl
def arOps : List (List UInt8) := [[43], [45], [42], [47], [37], [60], [61, 61]]
theorem an_ops : tyArrN PP 33 = some (7, 1) := by kernel_rfl
theorem lit_rng {k : Int} (h : (Lit.int .i64 k).wf = true) : rng k := by
  simp only [Lit.wf, Bool.and_eq_true, decide_eq_true_eq] at h
  exact h
theorem lit_u8 {k : Int} (h : (Lit.int .u8 k).wf = true) : 0 ≤ k ∧ k ≤ 255 := by
  simp only [Lit.wf, Bool.and_eq_true, decide_eq_true_eq] at h
  exact h
set_option maxHeartbeats 4000000 in
theorem farith_law (a b z : Int) (w : World) (hL : Laid w) (hb3 : 4 ≤ w.heap.size) (ra : rng a) (rb : rng b) (hz : 0 ≤ z ∧ z ≤ 255) : Ret PP fn_l07_FoldArithmetic #[.int .i64 a, .int .i64 b, .int .u8 z] w fun v w' => v = .bool true ∧ G w w' := by
  have g := G.refl w
  have hk : 0 ≤ z.tmod 7 ∧ z.tmod 7 < 7 := by rw [Int.tmod_eq_emod_of_nonneg hz.1]; omega
  obtain ⟨k, hke⟩ : ∃ k, k = z.tmod 7 := ⟨_, rfl⟩
  rw [← hke] at hk
  have hop : (arOps.map Str)[k.toNat]? = some (Str (arOps.getD k.toNat [])) := by
    have : k = 0 ∨ k = 1 ∨ k = 2 ∨ k = 3 ∨ k = 4 ∨ k = 5 ∨ k = 6 := by omega
    rcases this with e | e | e | e | e | e | e <;> rw [e] <;> rfl
  have hv := valC_bin (op := arOps.getD k.toNat []) ra rb
  obtain ⟨op, hoq⟩ : ∃ op, op = arOps.getD k.toNat [] := ⟨_, rfl⟩
  rw [← hoq] at hop hv
  refine ret_of_sc (m := 88) func_l07_FoldArithmetic rfl rfl [(0, True, _), (1, True, _), (2, True, _)] (sub_cons rfl (sub_cons rfl (sub_cons rfl (sub_nil _)))) ?_
  refine sc_seq fun K1 hK1 => ?_
  refine sc_text [3] ?_
  refine sr_pu rfl (fun _ => rd_assign ev_c) ?_
  refine sr_nil (hK1 _ _ ?_)
  refine sc_seq fun K2 hK2 => ?_
  refine sc_seq fun K3 hK3 => ?_
  refine sc_text [1, 3] ?_
  refine sr_pure rfl (rc_call go_l07_awake ev_f (args_nil) rfl) (awake7_ok _ (hL.grow g) (by have := g.size; omega)) (fun w12 g12 => ?_)
  have g := g.trans (g12)
  refine sr_pu rfl (fun _ => rd_not (ev_t rfl)) ?_
  refine sr_sub [(0, _, _), (1, _, _), (2, _, _), (6, _, _), (13, _, _)] (sub_cons rfl (sub_cons rfl (sub_cons rfl (sub_cons rfl (sub_cons rfl (sub_nil _)))))) ?_
  refine sr_nil (hK3 _ _ ?_)
  refine sc_false (ev_t rfl) ?_
  refine sc_skip (hK2 _ _ ?_)
  refine sc_sub [(0, _, _), (1, _, _), (2, _, _), (6, _, _)] (sub_cons rfl (sub_cons rfl (sub_cons rfl (sub_cons rfl (sub_nil _))))) ?_
  refine sc_seq fun K4 hK4 => ?_
  refine sc_text [3, 1, 2] ?_
  refine sr_pu rfl (fun _ => rd_buildarr [_, _, _, _, _, _, _] an_ops ze_7_string (parts_cons ev_c (parts_cons ev_c (parts_cons ev_c (parts_cons ev_c (parts_cons ev_c (parts_cons ev_c (parts_cons ev_c parts_nil))))))) rfl rfl) ?_
  refine sr_alloc rfl ze_7_string rfl ?_
  intro b7 w7 N7
  have l7 := N7.ge g
  have g := g.trans (N7.g)
  have B7 := N7.blk
  refine sr_store_all rfl sz_7_string (ev_t rfl) (ev_t rfl) rfl rfl B7 rfl rfl ?_
  intro wS1 hgS1 hzS1
  clear B7
  intro B7
  have g := g_only g hgS1 (by intro k hk; injection hk with hk; omega)
  refine sr_sub [(0, _, _), (1, _, _), (2, _, _), (6, _, _), (7, _, _)] (sub_cons rfl (sub_cons rfl (sub_cons rfl (sub_cons rfl (sub_cons rfl (sub_nil _)))))) ?_
  refine sr_nil (hK4 _ _ ?_)
  refine sc_seq fun K5 hK5 => ?_
  refine sc_text [3, 3, 3, 3] ?_
  refine sr_pu rfl (fun _ => rd_move (ev_t rfl)) ?_
  refine sr_pu rfl (fun _ => rd_convr (r := z) ik_uint8 ik_int (ev_t rfl) (fun hc => i64_id ⟨by omega, by omega⟩)) ?_
  refine sr_pu rfl (fun _ => rd_remw (ev_t rfl) ev_c (fun hc => by decide)) ?_
  refine sr_pu rfl (fun _ => rd_assign (ev_t rfl)) ?_
  refine sr_sub [(0, _, _), (1, _, _), (6, _, _), (7, _, _), (8, _, _)] (sub_cons rfl (sub_cons rfl (sub_cons rfl (sub_cons rfl (sub_cons rfl (sub_nil _)))))) ?_
  refine sr_nil (hK5 _ _ ?_)
  refine sc_seq fun K6 hK6 => ?_
  refine sc_draw [3, 3, 0, 3, 1, 3, 1, 1, 1, 3, 3, 3, 3, 3] [true, true, true, true, true, false, true, true, true, true, true, true, true, true] [0, 1, 3, 0, 8, 0, 56, 127, 255, 511, 1023, 1023, 2047, 8191] mix (by kernel_rfl) ?_
  have g := g.trans (G.drew _)
  replace B7 := B7.grow (G.drew _)
  rw [← hke]
  refine sr_pu rfl (fun _ => rd_move (ev_t rfl)) ?_
  refine sr_pu rfl (fun _ => rd_aptr an_ops (ev_t rfl) (ev_t rfl) (fun _ => hk)) ?_
  refine sr_rd rfl (rd_load one_string (ev_t rfl) (fun _ => by have := B7.row k.toNat _ hop; simpa using this)) ?_
  refine sr_pu rfl (fun _ => rd_move (ev_t rfl)) ?_
  refine sr_call rfl (rc_call go_l07_number ev_f (args_cons (ev_t rfl) (args_nil)) rfl) (lnumber_ok _ _) ?_
  rintro v23 w23 ⟨⟨p23, c23, rfl, hk23⟩, g23⟩
  refine ⟨fun _ => g23, ?_⟩
  have g := g.trans g23
  replace B7 := B7.grow (g23)
  refine sr_pu rfl (fun _ => rd_move (ev_t rfl)) ?_
  refine sr_call rfl (rc_call go_l07_number ev_f (args_cons (ev_t rfl) (args_nil)) rfl) (lnumber_ok _ _) ?_
  rintro v25 w25 ⟨⟨p25, c25, rfl, hk25⟩, g25⟩
  refine ⟨fun _ => g25, ?_⟩
  have g := g.trans g25
  replace B7 := B7.grow (g25)
  refine sr_call rfl (rc_call go_l07_binary ev_f (args_cons (ev_t rfl) (args_cons (ev_t rfl) (args_cons (ev_t rfl) (args_nil)))) rfl) (lbinary_ok _ _ _ _ _ _ _ _ (hk23.grow g25) hk25) ?_
  rintro v26 w26 ⟨⟨p26, c26, rfl, hk26⟩, g26⟩
  refine ⟨fun _ => g26, ?_⟩
  have g := g.trans g26
  replace B7 := B7.grow (g26)
  refine sr_pure rfl (rc_call go_fold_Value ev_f (args_cons (ev_t rfl) (args_nil)) rfl) (fValue_ok _ _ _ _ hk26) (fun w27 g27 => ?_)
  have g := g.trans (g27)
  replace B7 := B7.grow (g27)
  refine sr_pu rfl (fun _ => rd_move (ev_t rfl)) ?_
  refine sr_pu rfl (fun _ => rd_extract (ev_t rfl) rfl) ?_
  refine sr_pu rfl (fun _ => rd_extract (ev_t rfl) rfl) ?_
  refine sr_pu rfl (fun _ => rd_assign (ev_t rfl)) ?_
  refine sr_pu rfl (fun _ => rd_assign (ev_t rfl)) ?_
  refine sr_sub [(0, _, _), (1, _, _), (6, _, _), (8, _, _), (9, _, _), (10, _, _)] (sub_cons rfl (sub_cons rfl (sub_cons rfl (sub_cons rfl (sub_cons rfl (sub_cons rfl (sub_nil _))))))) ?_
  refine sr_nil (hK6 _ _ ?_)
  refine sc_seq fun K7 hK7 => ?_
  refine sc_seq fun K8 hK8 => ?_
  refine sc_text [3, 3, 3, 3, 3, 3, 3, 3, 3, 3] ?_
  refine sr_pu rfl (fun _ => rd_move (ev_t rfl)) ?_
  refine sr_pu rfl (fun _ => rd_eq (ev_t rfl) ev_c) ?_
  refine sr_pu rfl (fun _ => rd_move (ev_t rfl)) ?_
  refine sr_pug rfl rfl rfl (fun _ => rd_move (ev_t rfl)) ?_
  refine sr_pug rfl rfl rfl (fun _ => rd_eq (ev_u rfl id) ev_c) ?_
  refine sr_pu rfl (fun _ => rd_pick_or (ev_t rfl) (ev_u rfl id)) ?_
  refine sr_pu rfl (fun _ => rd_move (ev_t rfl)) ?_
  refine sr_pug rfl rfl rfl (fun _ => rd_move (ev_t rfl)) ?_
  refine sr_pug rfl rfl rfl (fun _ => rd_eq (ev_u rfl id) ev_c) ?_
  refine sr_pu rfl (fun _ => rd_pick_and (ev_t rfl) (ev_u rfl id)) ?_
  refine sr_sub [(0, _, _), (1, _, _), (6, _, _), (8, _, _), (9, _, _), (10, _, _), (39, _, _)] (sub_cons rfl (sub_cons rfl (sub_cons rfl (sub_cons rfl (sub_cons rfl (sub_cons rfl (sub_cons rfl (sub_nil _)))))))) ?_
  refine sr_nil (hK8 _ _ ?_)
  refine sc_cond (ev_t rfl) (fun h2 => ?_) (fun h2 => ?_)
  · skip
    refine sc_seq fun K9 hK9 => ?_
    refine sc_text [3, 3, 3, 3, 3, 3, 3] ?_
    refine sr_pu rfl (fun _ => rd_move (ev_t rfl)) ?_
    refine sr_pu rfl (fun _ => rd_eq (ev_t rfl) ev_c) ?_
    refine sr_pu rfl (fun _ => rd_move (ev_t rfl)) ?_
    refine sr_pug rfl rfl rfl (fun _ => rd_move (ev_t rfl)) ?_
    refine sr_pug rfl rfl rfl (fun _ => rd_not (ev_u rfl id)) ?_
    refine sr_pu rfl (fun _ => rd_pick_and (ev_t rfl) (ev_u rfl id)) ?_
    refine sr_pu rfl (fun _ => rd_assign (ev_t rfl)) ?_
    refine sr_sub [(0, _, _), (1, _, _), (6, _, _), (8, _, _), (9, _, _), (10, _, _)] (sub_cons rfl (sub_cons rfl (sub_cons rfl (sub_cons rfl (sub_cons rfl (sub_cons rfl (sub_nil _))))))) ?_
    refine sr_nil (hK9 _ _ ?_)
    refine sc_ret (t_ret1 rfl rfl ?_)
    refine ⟨congrArg Value.bool ?_, g⟩
    have h2' : (k = 3 ∨ k = 4) ∧ b = 0 := by simpa using h2
    have hv' : binF op (false, a) (false, b) = zc := by
      obtain ⟨e | e, hb0⟩ := h2' <;> rw [hoq, e, hb0] <;> rfl
    rw [hv, hv']; rfl
  skip
  refine sc_skip (hK7 _ _ ?_)
  refine sc_sub [(0, _, _), (1, _, _), (6, _, _), (8, _, _), (9, _, _), (10, _, _)] (sub_cons rfl (sub_cons rfl (sub_cons rfl (sub_cons rfl (sub_cons rfl (sub_cons rfl (sub_nil _))))))) ?_
  refine sc_seq fun K10 hK10 => ?_
  refine sc_text [3] ?_
  refine sr_pu rfl (fun _ => rd_assign ev_c) ?_
  refine sr_nil (hK10 _ _ ?_)
  refine sc_seq fun K11 hK11 => ?_
  refine sc_seq fun K12 hK12 => ?_
  refine sc_text [3] ?_
  refine sr_pu rfl (fun _ => rd_move (ev_t rfl)) ?_
  refine sr_sub [(0, _, _), (1, _, _), (6, _, _), (9, _, _), (10, _, _), (11, _, _), (46, _, _)] (sub_cons rfl (sub_cons rfl (sub_cons rfl (sub_cons rfl (sub_cons rfl (sub_cons rfl (sub_cons rfl (sub_nil _)))))))) ?_
  refine sr_nil (hK12 _ _ ?_)
  refine sc_block ?_
  refine sc_seq fun K13 hK13 => ?_
  refine sc_text [3, 3] ?_
  refine sr_pu rfl (fun _ => rd_eq (ev_t rfl) ev_c) ?_
  refine sr_pu rfl (fun _ => rd_assign (ev_t rfl)) ?_
  refine sr_sub [(0, _, _), (1, _, _), (6, _, _), (9, _, _), (10, _, _), (11, _, _), (46, _, _), (47, _, _)] (sub_cons rfl (sub_cons rfl (sub_cons rfl (sub_cons rfl (sub_cons rfl (sub_cons rfl (sub_cons rfl (sub_cons rfl (sub_nil _))))))))) ?_
  refine sr_nil (hK13 _ _ ?_)
  refine sc_cond (ev_t rfl) (fun h3 => ?_) (fun h3 => ?_)
  · skip
    replace h3 : k = 0 := of_decide_eq_true h3
    refine sc_text [3, 3, 3, 3] ?_
    refine sr_pu rfl (fun _ => rd_move (ev_t rfl)) ?_
    refine sr_pu rfl (fun _ => rd_move (ev_t rfl)) ?_
    refine sr_pu rfl (fun _ => rd_addw (ev_t rfl) (ev_t rfl)) ?_
    refine sr_pu rfl (fun _ => rd_assign (ev_t rfl)) ?_
    refine sr_sub [(6, _, _), (9, _, _), (10, _, _), (11, _, _)] (sub_cons rfl (sub_cons rfl (sub_cons rfl (sub_cons rfl (sub_nil _))))) ?_
    refine sr_nil (hK11 _ _ ?_)
    refine sc_seq fun K14 hK14 => ?_
    refine sc_text [3, 3, 3, 3, 3, 3, 3] ?_
    refine sr_pu rfl (fun _ => rd_move (ev_t rfl)) ?_
    refine sr_pu rfl (fun _ => rd_move (ev_t rfl)) ?_
    refine sr_pug rfl rfl rfl (fun _ => rd_move (ev_t rfl)) ?_
    refine sr_pug rfl rfl rfl (fun _ => rd_move (ev_t rfl)) ?_
    refine sr_pug rfl rfl rfl (fun _ => rd_eq (ev_u rfl id) (ev_u rfl id)) ?_
    refine sr_pu rfl (fun _ => rd_pick_and (ev_t rfl) (ev_u rfl id)) ?_
    refine sr_pu rfl (fun _ => rd_assign (ev_t rfl)) ?_
    refine sr_nil (hK14 _ _ ?_)
    refine sc_ret (t_ret1 rfl rfl ?_)
    refine ⟨congrArg Value.bool ?_, g⟩
    have hv' : binF op (false, a) (false, b) = nmC (IntKind.i64.wrap (a + b)) := by rw [hoq, h3]; rfl
    rw [hv, hv']; simp [nmC, trC]
  skip
  refine sc_seq fun K15 hK15 => ?_
  refine sc_text [3, 3] ?_
  refine sr_pu rfl (fun _ => rd_eq (ev_t rfl) ev_c) ?_
  refine sr_pu rfl (fun _ => rd_assign (ev_t rfl)) ?_
  refine sr_sub [(0, _, _), (1, _, _), (6, _, _), (9, _, _), (10, _, _), (11, _, _), (46, _, _), (52, _, _)] (sub_cons rfl (sub_cons rfl (sub_cons rfl (sub_cons rfl (sub_cons rfl (sub_cons rfl (sub_cons rfl (sub_cons rfl (sub_nil _))))))))) ?_
  refine sr_nil (hK15 _ _ ?_)
  refine sc_cond (ev_t rfl) (fun h4 => ?_) (fun h4 => ?_)
  · skip
    replace h4 : k = 1 := of_decide_eq_true h4
    refine sc_text [3, 3, 3, 3] ?_
    refine sr_pu rfl (fun _ => rd_move (ev_t rfl)) ?_
    refine sr_pu rfl (fun _ => rd_move (ev_t rfl)) ?_
    refine sr_pu rfl (fun _ => rd_subw (ev_t rfl) (ev_t rfl)) ?_
    refine sr_pu rfl (fun _ => rd_assign (ev_t rfl)) ?_
    refine sr_sub [(6, _, _), (9, _, _), (10, _, _), (11, _, _)] (sub_cons rfl (sub_cons rfl (sub_cons rfl (sub_cons rfl (sub_nil _))))) ?_
    refine sr_nil (hK11 _ _ ?_)
    refine sc_seq fun K16 hK16 => ?_
    refine sc_text [3, 3, 3, 3, 3, 3, 3] ?_
    refine sr_pu rfl (fun _ => rd_move (ev_t rfl)) ?_
    refine sr_pu rfl (fun _ => rd_move (ev_t rfl)) ?_
    refine sr_pug rfl rfl rfl (fun _ => rd_move (ev_t rfl)) ?_
    refine sr_pug rfl rfl rfl (fun _ => rd_move (ev_t rfl)) ?_
    refine sr_pug rfl rfl rfl (fun _ => rd_eq (ev_u rfl id) (ev_u rfl id)) ?_
    refine sr_pu rfl (fun _ => rd_pick_and (ev_t rfl) (ev_u rfl id)) ?_
    refine sr_pu rfl (fun _ => rd_assign (ev_t rfl)) ?_
    refine sr_nil (hK16 _ _ ?_)
    refine sc_ret (t_ret1 rfl rfl ?_)
    refine ⟨congrArg Value.bool ?_, g⟩
    have hv' : binF op (false, a) (false, b) = nmC (IntKind.i64.wrap (a - b)) := by rw [hoq, h4]; rfl
    rw [hv, hv']; simp [nmC, trC]
  skip
  refine sc_seq fun K17 hK17 => ?_
  refine sc_text [3, 3] ?_
  refine sr_pu rfl (fun _ => rd_eq (ev_t rfl) ev_c) ?_
  refine sr_pu rfl (fun _ => rd_assign (ev_t rfl)) ?_
  refine sr_sub [(0, _, _), (1, _, _), (6, _, _), (9, _, _), (10, _, _), (11, _, _), (46, _, _), (57, _, _)] (sub_cons rfl (sub_cons rfl (sub_cons rfl (sub_cons rfl (sub_cons rfl (sub_cons rfl (sub_cons rfl (sub_cons rfl (sub_nil _))))))))) ?_
  refine sr_nil (hK17 _ _ ?_)
  refine sc_cond (ev_t rfl) (fun h5 => ?_) (fun h5 => ?_)
  · skip
    replace h5 : k = 2 := of_decide_eq_true h5
    refine sc_text [3, 3, 3, 3] ?_
    refine sr_pu rfl (fun _ => rd_move (ev_t rfl)) ?_
    refine sr_pu rfl (fun _ => rd_move (ev_t rfl)) ?_
    refine sr_pu rfl (fun _ => rd_mulw (ev_t rfl) (ev_t rfl)) ?_
    refine sr_pu rfl (fun _ => rd_assign (ev_t rfl)) ?_
    refine sr_sub [(6, _, _), (9, _, _), (10, _, _), (11, _, _)] (sub_cons rfl (sub_cons rfl (sub_cons rfl (sub_cons rfl (sub_nil _))))) ?_
    refine sr_nil (hK11 _ _ ?_)
    refine sc_seq fun K18 hK18 => ?_
    refine sc_text [3, 3, 3, 3, 3, 3, 3] ?_
    refine sr_pu rfl (fun _ => rd_move (ev_t rfl)) ?_
    refine sr_pu rfl (fun _ => rd_move (ev_t rfl)) ?_
    refine sr_pug rfl rfl rfl (fun _ => rd_move (ev_t rfl)) ?_
    refine sr_pug rfl rfl rfl (fun _ => rd_move (ev_t rfl)) ?_
    refine sr_pug rfl rfl rfl (fun _ => rd_eq (ev_u rfl id) (ev_u rfl id)) ?_
    refine sr_pu rfl (fun _ => rd_pick_and (ev_t rfl) (ev_u rfl id)) ?_
    refine sr_pu rfl (fun _ => rd_assign (ev_t rfl)) ?_
    refine sr_nil (hK18 _ _ ?_)
    refine sc_ret (t_ret1 rfl rfl ?_)
    refine ⟨congrArg Value.bool ?_, g⟩
    have hv' : binF op (false, a) (false, b) = nmC (IntKind.i64.wrap (a * b)) := by rw [hoq, h5]; rfl
    rw [hv, hv']; simp [nmC, trC]
  skip
  refine sc_seq fun K19 hK19 => ?_
  refine sc_text [3, 3] ?_
  refine sr_pu rfl (fun _ => rd_eq (ev_t rfl) ev_c) ?_
  refine sr_pu rfl (fun _ => rd_assign (ev_t rfl)) ?_
  refine sr_sub [(0, _, _), (1, _, _), (6, _, _), (9, _, _), (10, _, _), (11, _, _), (46, _, _), (62, _, _)] (sub_cons rfl (sub_cons rfl (sub_cons rfl (sub_cons rfl (sub_cons rfl (sub_cons rfl (sub_cons rfl (sub_cons rfl (sub_nil _))))))))) ?_
  refine sr_nil (hK19 _ _ ?_)
  refine sc_cond (ev_t rfl) (fun h6 => ?_) (fun h6 => ?_)
  · skip
    replace h6 : k = 3 := of_decide_eq_true h6
    have hb0 : b ≠ 0 := by intro hb; rw [h6, hb] at h2; revert h2; decide
    refine sc_text [3, 3, 3, 3] ?_
    refine sr_pu rfl (fun _ => rd_move (ev_t rfl)) ?_
    refine sr_pu rfl (fun _ => rd_move (ev_t rfl)) ?_
    refine sr_pu rfl (fun _ => rd_quow (ev_t rfl) (ev_t rfl) (fun _ => hb0)) ?_
    refine sr_pu rfl (fun _ => rd_assign (ev_t rfl)) ?_
    refine sr_sub [(6, _, _), (9, _, _), (10, _, _), (11, _, _)] (sub_cons rfl (sub_cons rfl (sub_cons rfl (sub_cons rfl (sub_nil _))))) ?_
    refine sr_nil (hK11 _ _ ?_)
    refine sc_seq fun K20 hK20 => ?_
    refine sc_text [3, 3, 3, 3, 3, 3, 3] ?_
    refine sr_pu rfl (fun _ => rd_move (ev_t rfl)) ?_
    refine sr_pu rfl (fun _ => rd_move (ev_t rfl)) ?_
    refine sr_pug rfl rfl rfl (fun _ => rd_move (ev_t rfl)) ?_
    refine sr_pug rfl rfl rfl (fun _ => rd_move (ev_t rfl)) ?_
    refine sr_pug rfl rfl rfl (fun _ => rd_eq (ev_u rfl id) (ev_u rfl id)) ?_
    refine sr_pu rfl (fun _ => rd_pick_and (ev_t rfl) (ev_u rfl id)) ?_
    refine sr_pu rfl (fun _ => rd_assign (ev_t rfl)) ?_
    refine sr_nil (hK20 _ _ ?_)
    refine sc_ret (t_ret1 rfl rfl ?_)
    refine ⟨congrArg Value.bool ?_, g⟩
    have hv' : binF op (false, a) (false, b) = nmC (IntKind.i64.wrap (a.tdiv b)) := by rw [hoq, h6]; show (bif !decide (b = 0) then nmC (IntKind.i64.wrap (a.tdiv b)) else zc) = _; rw [decide_eq_false hb0]; rfl
    rw [hv, hv']; simp [nmC, trC]
  skip
  refine sc_seq fun K21 hK21 => ?_
  refine sc_text [3, 3] ?_
  refine sr_pu rfl (fun _ => rd_eq (ev_t rfl) ev_c) ?_
  refine sr_pu rfl (fun _ => rd_assign (ev_t rfl)) ?_
  refine sr_sub [(0, _, _), (1, _, _), (6, _, _), (9, _, _), (10, _, _), (11, _, _), (46, _, _), (67, _, _)] (sub_cons rfl (sub_cons rfl (sub_cons rfl (sub_cons rfl (sub_cons rfl (sub_cons rfl (sub_cons rfl (sub_cons rfl (sub_nil _))))))))) ?_
  refine sr_nil (hK21 _ _ ?_)
  refine sc_cond (ev_t rfl) (fun h7 => ?_) (fun h7 => ?_)
  · skip
    replace h7 : k = 4 := of_decide_eq_true h7
    have hb0 : b ≠ 0 := by intro hb; rw [h7, hb] at h2; revert h2; decide
    refine sc_text [3, 3, 3, 3] ?_
    refine sr_pu rfl (fun _ => rd_move (ev_t rfl)) ?_
    refine sr_pu rfl (fun _ => rd_move (ev_t rfl)) ?_
    refine sr_pu rfl (fun _ => rd_remw (ev_t rfl) (ev_t rfl) (fun _ => hb0)) ?_
    refine sr_pu rfl (fun _ => rd_assign (ev_t rfl)) ?_
    refine sr_sub [(6, _, _), (9, _, _), (10, _, _), (11, _, _)] (sub_cons rfl (sub_cons rfl (sub_cons rfl (sub_cons rfl (sub_nil _))))) ?_
    refine sr_nil (hK11 _ _ ?_)
    refine sc_seq fun K22 hK22 => ?_
    refine sc_text [3, 3, 3, 3, 3, 3, 3] ?_
    refine sr_pu rfl (fun _ => rd_move (ev_t rfl)) ?_
    refine sr_pu rfl (fun _ => rd_move (ev_t rfl)) ?_
    refine sr_pug rfl rfl rfl (fun _ => rd_move (ev_t rfl)) ?_
    refine sr_pug rfl rfl rfl (fun _ => rd_move (ev_t rfl)) ?_
    refine sr_pug rfl rfl rfl (fun _ => rd_eq (ev_u rfl id) (ev_u rfl id)) ?_
    refine sr_pu rfl (fun _ => rd_pick_and (ev_t rfl) (ev_u rfl id)) ?_
    refine sr_pu rfl (fun _ => rd_assign (ev_t rfl)) ?_
    refine sr_nil (hK22 _ _ ?_)
    refine sc_ret (t_ret1 rfl rfl ?_)
    refine ⟨congrArg Value.bool ?_, g⟩
    have hv' : binF op (false, a) (false, b) = nmC (a.tmod b) := by rw [hoq, h7]; show (bif !decide (b = 0) then nmC (a.tmod b) else zc) = _; rw [decide_eq_false hb0]; rfl
    rw [hv, hv']; simp [nmC, trC]
  skip
  refine sc_seq fun K23 hK23 => ?_
  refine sc_text [3, 3] ?_
  refine sr_pu rfl (fun _ => rd_eq (ev_t rfl) ev_c) ?_
  refine sr_pu rfl (fun _ => rd_assign (ev_t rfl)) ?_
  refine sr_sub [(0, _, _), (1, _, _), (6, _, _), (9, _, _), (10, _, _), (11, _, _), (46, _, _), (72, _, _)] (sub_cons rfl (sub_cons rfl (sub_cons rfl (sub_cons rfl (sub_cons rfl (sub_cons rfl (sub_cons rfl (sub_cons rfl (sub_nil _))))))))) ?_
  refine sr_nil (hK23 _ _ ?_)
  refine sc_cond (ev_t rfl) (fun h8 => ?_) (fun h8 => ?_)
  · skip
    replace h8 : k = 5 := of_decide_eq_true h8
    refine sc_seq fun K24 hK24 => ?_
    refine sc_text [3, 3, 3] ?_
    refine sr_pu rfl (fun _ => rd_move (ev_t rfl)) ?_
    refine sr_pu rfl (fun _ => rd_move (ev_t rfl)) ?_
    refine sr_pu rfl (fun _ => rd_lt (ev_t rfl) (ev_t rfl)) ?_
    refine sr_sub [(6, _, _), (9, _, _), (10, _, _), (11, _, _), (76, _, _)] (sub_cons rfl (sub_cons rfl (sub_cons rfl (sub_cons rfl (sub_cons rfl (sub_nil _)))))) ?_
    refine sr_nil (hK24 _ _ ?_)
    refine sc_cond (ev_t rfl) (fun h9 => ?_) (fun h9 => ?_)
    · skip
      skip
      refine sc_text [3] ?_
      refine sr_pu rfl (fun _ => rd_assign ev_c) ?_
      refine sr_sub [(6, _, _), (9, _, _), (10, _, _), (11, _, _)] (sub_cons rfl (sub_cons rfl (sub_cons rfl (sub_cons rfl (sub_nil _))))) ?_
      refine sr_nil (hK11 _ _ ?_)
      refine sc_seq fun K25 hK25 => ?_
      refine sc_text [3, 3, 3, 3, 3, 3, 3] ?_
      refine sr_pu rfl (fun _ => rd_move (ev_t rfl)) ?_
      refine sr_pu rfl (fun _ => rd_move (ev_t rfl)) ?_
      refine sr_pug rfl rfl rfl (fun _ => rd_move (ev_t rfl)) ?_
      refine sr_pug rfl rfl rfl (fun _ => rd_move (ev_t rfl)) ?_
      refine sr_pug rfl rfl rfl (fun _ => rd_eq (ev_u rfl id) (ev_u rfl id)) ?_
      refine sr_pu rfl (fun _ => rd_pick_and (ev_t rfl) (ev_u rfl id)) ?_
      refine sr_pu rfl (fun _ => rd_assign (ev_t rfl)) ?_
      refine sr_nil (hK25 _ _ ?_)
      refine sc_ret (t_ret1 rfl rfl ?_)
      refine ⟨congrArg Value.bool ?_, g⟩
      have hv' : binF op (false, a) (false, b) = trC true := by rw [hoq, h8]; show trC (decide (a < b)) = _; rw [h9]
      rw [hv, hv']; simp [nmC, trC]
    skip
    skip
    refine sc_skip (hK11 _ _ ?_)
    refine sc_sub [(6, _, _), (9, _, _), (10, _, _), (11, _, _)] (sub_cons rfl (sub_cons rfl (sub_cons rfl (sub_cons rfl (sub_nil _))))) ?_
    refine sc_seq fun K26 hK26 => ?_
    refine sc_text [3, 3, 3, 3, 3, 3, 3] ?_
    refine sr_pu rfl (fun _ => rd_move (ev_t rfl)) ?_
    refine sr_pu rfl (fun _ => rd_move (ev_t rfl)) ?_
    refine sr_pug rfl rfl rfl (fun _ => rd_move (ev_t rfl)) ?_
    refine sr_pug rfl rfl rfl (fun _ => rd_move (ev_t rfl)) ?_
    refine sr_pug rfl rfl rfl (fun _ => rd_eq (ev_u rfl id) (ev_u rfl id)) ?_
    refine sr_pu rfl (fun _ => rd_pick_and (ev_t rfl) (ev_u rfl id)) ?_
    refine sr_pu rfl (fun _ => rd_assign (ev_t rfl)) ?_
    refine sr_nil (hK26 _ _ ?_)
    refine sc_ret (t_ret1 rfl rfl ?_)
    refine ⟨congrArg Value.bool ?_, g⟩
    have hv' : binF op (false, a) (false, b) = trC false := by rw [hoq, h8]; show trC (decide (a < b)) = _; rw [h9]
    rw [hv, hv']; simp [nmC, trC]
  skip
  refine sc_seq fun K27 hK27 => ?_
  refine sc_text [3, 3] ?_
  refine sr_pu rfl (fun _ => rd_eq (ev_t rfl) ev_c) ?_
  refine sr_pu rfl (fun _ => rd_assign (ev_t rfl)) ?_
  refine sr_sub [(0, _, _), (1, _, _), (6, _, _), (9, _, _), (10, _, _), (11, _, _), (77, _, _)] (sub_cons rfl (sub_cons rfl (sub_cons rfl (sub_cons rfl (sub_cons rfl (sub_cons rfl (sub_cons rfl (sub_nil _)))))))) ?_
  refine sr_nil (hK27 _ _ ?_)
  refine sc_cond (ev_t rfl) (fun h10 => ?_) (fun h10 => ?_)
  · skip
    replace h10 : k = 6 := of_decide_eq_true h10
    refine sc_seq fun K28 hK28 => ?_
    refine sc_text [3, 3, 3] ?_
    refine sr_pu rfl (fun _ => rd_move (ev_t rfl)) ?_
    refine sr_pu rfl (fun _ => rd_move (ev_t rfl)) ?_
    refine sr_pu rfl (fun _ => rd_eq (ev_t rfl) (ev_t rfl)) ?_
    refine sr_sub [(6, _, _), (9, _, _), (10, _, _), (11, _, _), (81, _, _)] (sub_cons rfl (sub_cons rfl (sub_cons rfl (sub_cons rfl (sub_cons rfl (sub_nil _)))))) ?_
    refine sr_nil (hK28 _ _ ?_)
    refine sc_cond (ev_t rfl) (fun h11 => ?_) (fun h11 => ?_)
    · skip
      skip
      refine sc_text [3] ?_
      refine sr_pu rfl (fun _ => rd_assign ev_c) ?_
      refine sr_sub [(6, _, _), (9, _, _), (10, _, _), (11, _, _)] (sub_cons rfl (sub_cons rfl (sub_cons rfl (sub_cons rfl (sub_nil _))))) ?_
      refine sr_nil (hK11 _ _ ?_)
      refine sc_seq fun K29 hK29 => ?_
      refine sc_text [3, 3, 3, 3, 3, 3, 3] ?_
      refine sr_pu rfl (fun _ => rd_move (ev_t rfl)) ?_
      refine sr_pu rfl (fun _ => rd_move (ev_t rfl)) ?_
      refine sr_pug rfl rfl rfl (fun _ => rd_move (ev_t rfl)) ?_
      refine sr_pug rfl rfl rfl (fun _ => rd_move (ev_t rfl)) ?_
      refine sr_pug rfl rfl rfl (fun _ => rd_eq (ev_u rfl id) (ev_u rfl id)) ?_
      refine sr_pu rfl (fun _ => rd_pick_and (ev_t rfl) (ev_u rfl id)) ?_
      refine sr_pu rfl (fun _ => rd_assign (ev_t rfl)) ?_
      refine sr_nil (hK29 _ _ ?_)
      refine sc_ret (t_ret1 rfl rfl ?_)
      refine ⟨congrArg Value.bool ?_, g⟩
      have hv' : binF op (false, a) (false, b) = trC true := by rw [hoq, h10]; show trC (decide (a = b)) = _; rw [h11]
      rw [hv, hv']; simp [nmC, trC]
    skip
    skip
    refine sc_skip (hK11 _ _ ?_)
    refine sc_sub [(6, _, _), (9, _, _), (10, _, _), (11, _, _)] (sub_cons rfl (sub_cons rfl (sub_cons rfl (sub_cons rfl (sub_nil _))))) ?_
    refine sc_seq fun K30 hK30 => ?_
    refine sc_text [3, 3, 3, 3, 3, 3, 3] ?_
    refine sr_pu rfl (fun _ => rd_move (ev_t rfl)) ?_
    refine sr_pu rfl (fun _ => rd_move (ev_t rfl)) ?_
    refine sr_pug rfl rfl rfl (fun _ => rd_move (ev_t rfl)) ?_
    refine sr_pug rfl rfl rfl (fun _ => rd_move (ev_t rfl)) ?_
    refine sr_pug rfl rfl rfl (fun _ => rd_eq (ev_u rfl id) (ev_u rfl id)) ?_
    refine sr_pu rfl (fun _ => rd_pick_and (ev_t rfl) (ev_u rfl id)) ?_
    refine sr_pu rfl (fun _ => rd_assign (ev_t rfl)) ?_
    refine sr_nil (hK30 _ _ ?_)
    refine sc_ret (t_ret1 rfl rfl ?_)
    refine ⟨congrArg Value.bool ?_, g⟩
    have hv' : binF op (false, a) (false, b) = trC false := by rw [hoq, h10]; show trC (decide (a = b)) = _; rw [h11]
    rw [hv, hv']; simp [nmC, trC]
  skip
  exfalso; simp only [bsimp, decide_eq_false_iff_not] at h3 h4 h5 h6 h7 h8 h10; omega
end Go.Rk
namespace Go.Rk
open Go Go.RowKit Go.ChangeShapes Go.WideShapes Go.ChangeAt
/-- An array of strings that reads as a list of texts holds them. -/
theorem cells_of_strs {H : Type} {enc : TypeId × Value → H} {P : Program} {w : World} {base : Nat} {sp : Nat → Bool} {held : Bool} {fuel : Nat} {t e : TypeId} {n : Nat} {cs : List Value} {ls : List (List UInt8)} {p : List MemPlace}
    (ht : P.underlying t = some (.array n e)) (he : P.underlying e = some .string) (hce : P.cellsOf e = 1) (hct : P.cellsOf t = n)
    (h : DataW.trod enc P w base sp held fuel t cs = some (.agg (ls.map fun l => .lit (.string l)), p)) : cs = ls.map Str := by
  cases fuel with
  | zero => simp [DataW.trod] at h
  | succ fuel =>
    simp only [DataW.trod, ht, hce, hct, Nat.mul_one] at h
    split at h
    · rename_i hl
      obtain ⟨xs, hm, hx⟩ := Option.map_eq_some_iff.1 h
      have hxs : xs.map (·.1) = ls.map fun l => (DataW.lit (.string l) : DataW H) := by
        have := congrArg Prod.fst hx
        simpa using this
      have hxl : xs.length = n := by simpa using Lib.mapM_length hm
      have hzl : ls.length = n := by
        have := congrArg List.length hxs
        simp at this
        omega
      apply List.ext_getElem?
      intro i
      by_cases hi : i < n
      · obtain ⟨b, hb, hf⟩ := Lib.mapM_at hm i i (by simp [hi])
        obtain ⟨s, hc, rfl, _⟩ := DataW.trod_string he hf
        have h1 : cs[i]? = some (.string s) := by
          have := congrArg (·[0]?) hc
          simpa [List.getElem?_take, List.getElem?_drop] using this
        have h2 : (xs.map (·.1))[i]? = some (DataW.lit (.string s.data.toList) : DataW H) := by simp [hb]
        rw [hxs] at h2
        simp only [List.getElem?_map, Option.map_eq_some_iff, DataW.lit.injEq, Lit.string.injEq] at h2
        obtain ⟨z', hz', e⟩ := h2
        rw [h1]
        simp [hz', e]
      · rw [List.getElem?_eq_none (by omega), List.getElem?_eq_none (by simp; omega)]
    · cases h
theorem laid_of {P : Program} {x : String × DataW Unit} {r : List (String × DataW Unit)} {W : World} {g : Nat} {t : TypeId} (h : laidMet P (x :: r) W) (hg : P.globalNamed x.1 = some g) (ht : (P.globals[g]?).map (·.type) = some t) :
    ∃ cs fuel p, W.var? P x.1 = some cs ∧ DataW.trod (fun _ => ()) P W 0 (fun _ => true) false fuel t cs.toList = some (x.2, p) := by
  obtain ⟨n, d⟩ := x
  obtain ⟨ps, ⟨g', t', cs, fuel, p, q, hg', ht', hvar, hd, _, _⟩, _⟩ := h
  obtain rfl := Option.some.inj (hg.symm.trans hg')
  obtain rfl := Option.some.inj (ht.symm.trans ht')
  exact ⟨cs, fuel, p, hvar, hd⟩
abbrev laidL : List (String × DataW Unit) := Go.Proofs.YtheifopckahdiaaDoor.Rows.foldValueRow.laid
theorem laid_cells {W : World} (h : laidMetH PP laidL W) : Laid W := by
  have h0 : laidMet PP laidL W := h
  obtain ⟨cs, fuel, p, hv, hd⟩ := laid_of h0.tail.tail.tail.tail.tail (g := 0) (t := 113) (by kernel_rfl) (by kernel_rfl)
  have hc : cs.toList = opsL.map Str := cells_of_strs (n := 27) (e := 9) (by kernel_rfl) (by kernel_rfl) (by kernel_rfl) (by kernel_rfl) hd
  obtain ⟨cs2, fuel2, p2, hv2, hd2⟩ := laid_of h0.tail.tail.tail (g := 3) (t := 76) (by kernel_rfl) (by kernel_rfl)
  obtain ⟨ms, hms⟩ : ∃ ms, PP.underlying 76 = some (.interface ms) := Go.underlying_of_isIface if_error
  obtain ⟨f', u, v, hc2, _⟩ := iface_of_trod hms hd2
  refine ⟨fun j v hj => ?_, ?_⟩
  · have := World.var?_cell (by kernel_rfl : PP.globalNamed _ = some 0) hv j
    rw [Nat.zero_add, this, ← hj, ← hc]; simp
  · have := World.var?_cell (by kernel_rfl : PP.globalNamed _ = some 3) hv2 0
    refine ⟨.iface u v, ?_, .inr ⟨_, _, rfl⟩⟩
    rw [this, ← Array.getElem?_toList, hc2]; rfl
theorem laid_size {W : World} (h : Laid W) : 4 ≤ W.heap.size := by
  obtain ⟨ev, h1, _⟩ := h.err
  exact World.block_lt_of_cell? W _ h1
end Go.Rk
namespace Go.Proofs.YtheifopckahdiaaDoor
open Go Go.RowKit Go.ChangeShapes Go.WideShapes Go.ChangeAt Go.Rk
theorem own : ownKnob Tryd.prog.godebug = none := by kernel_rfl
def cellOf : DataW Unit → Value
  | .lit (.int k z) => .int k z
  | .lit (.string s) => .string ⟨s.toArray⟩
  | _ => .nilIface
def cellsOf : DataW Unit → Array Value
  | .agg l => (l.map cellOf).toArray
  | _ => #[]
def textOf : DataW Unit → Value
  | .iface _ (.ptr (.agg [d])) => cellOf d
  | _ => .nilIface
def put (h : Array Obj) (g : Nat) (cs : Array Value) : Array Obj := h.modify g fun
  | .cells _ t frozen => .cells cs t frozen
  | o => o
/-- A world that holds what the rows list. -/
noncomputable def laidWorld (os : Os) : World :=
  let N := (World.settled Tryd.prog os).heap.size
  let w0 := World.holding Tryd.prog os ⟨#[.cells #[textOf Rows.laid_strconv_ErrSyntax] 143, .cells #[textOf Rows.laid_strconv_ErrRange] 143], #[], []⟩
  let h0 := put w0.heap 0 (cellsOf Rows.laid_interleave_scan_operators)
  let h1 := put h0 1 (cellsOf Rows.laid_internal_strconv_uint64pow10)
  let h2 := put h1 2 #[.iface 141 (.pointer (some ⟨N, 0, none⟩))]
  let h3 := put h2 3 #[.iface 141 (.pointer (some ⟨N + 1, 0, none⟩))]
  let h4 := put h3 4 (cellsOf Rows.laid_math_bits_deBruijn32tab)
  let h5 := put h4 5 (cellsOf Rows.laid_math_bits_deBruijn64tab)
  { w0 with heap := h5 }
end Go.Proofs.YtheifopckahdiaaDoor
