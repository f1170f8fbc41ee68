/- The types: what is valid, a reference, a value; assignable, comparable. Conditions: what start-up laid. -/
import Derived.Test.YtbefeanapficgaaDoorTypA
namespace Go.Rk
open Go Go.RowKit
theorem Ty.ext' {a b : Ty} (h : a.kind = b.kind) (k : a.name = b.name) : a = b := by cases a; cases b; simp_all
/-- As the machine compares two of them. -/
def tyEqB (a b : Ty) : Bool := decide (a.kind = b.kind) && (decide (a.name = b.name) && true)
theorem tyEqB_iff (a b : Ty) : tyEqB a b = true ↔ a = b := by
  unfold tyEqB; simp only [Bool.and_true, Bool.and_eq_true, decide_eq_true_eq]
  exact ⟨fun h => Ty.ext' h.1 h.2, fun h => by rw [h]; exact ⟨rfl, rfl⟩⟩
theorem tyEqB_refl (a : Ty) : tyEqB a a = true := (tyEqB_iff a a).2 rfl
theorem tyEqB_comm (a b : Ty) : tyEqB a b = tyEqB b a := by
  rw [Bool.eq_iff_iff, tyEqB_iff, tyEqB_iff]; exact eq_comm
def tInt : Ty := ⟨1, []⟩
def tBool : Ty := ⟨2, []⟩
def tNil : Ty := ⟨3, []⟩
def validB (y : Ty) : Bool := bif decide (y.kind = 4) then nameB y.name else (decide (0 ≤ y.kind) && decide (y.kind ≤ 12)) && decide (y.name = [])
def refB (y : Ty) : Bool := bif anyK [4, 5, 6, 7] y.kind then validB y else false
def valueB (y : Ty) : Bool := (tyEqB y tInt || tyEqB y tBool) || refB y
def assignB (to fr : Ty) : Bool := valueB to && (tyEqB fr to || (tyEqB fr tNil && refB to))
def compB (a b : Ty) : Bool := bif tyEqB a tNil || tyEqB b tNil then refB a || refB b
  else bif anyK [1, 2, 4, 6] a.kind then tyEqB a b && validB a else false
theorem tvalid_ok (y : Ty) (w : World) (hL : Laid w) (hb3 : 4 ≤ w.heap.size) : Ret PP fn_types_valid #[tyV y] w fun v w' => v = .bool (validB y) ∧ G w w' := by
  have g := G.refl w
  refine ret_of_sc (m := 22) func_types_valid rfl rfl [(0, True, _)] (sub_cons rfl (sub_nil _)) ?_
  refine sc_seq fun K1 hK1 => ?_
  refine sc_text [1, 3] ?_
  refine sr_box rfl (ev_t rfl) rfl ?_
  intro b1 w1 N1
  have l1 := N1.ge g
  have g := g.trans (N1.g)
  have B1 := N1.blk
  refine sr_pu rfl (fun _ => rd_assign ev_c) ?_
  refine sr_sub [(1, _, _), (2, _, _)] (sub_cons rfl (sub_cons rfl (sub_nil _))) ?_
  refine sr_nil (hK1 _ _ ?_)
  refine sc_seq fun K2 hK2 => ?_
  refine sc_seq fun K3 hK3 => ?_
  refine sc_text [3, 0, 3] ?_
  refine sr_pu rfl (fun _ => rd_field fo_api_Type_0 (ev_t rfl)) ?_
  refine sr_rd rfl (rd_load one_int (ev_t rfl) (fun _ => B1.at_ rfl)) ?_
  refine sr_pu rfl (fun _ => rd_eq (ev_t rfl) ev_c) ?_
  refine sr_sub [(1, _, _), (2, _, _), (5, _, _)] (sub_cons rfl (sub_cons rfl (sub_cons rfl (sub_nil _)))) ?_
  refine sr_nil (hK3 _ _ ?_)
  refine sc_cond (ev_t rfl) (fun h1 => ?_) (fun h1 => ?_)
  · (try simp only [bsimp] at h1)
    refine sc_seq fun K4 hK4 => ?_
    refine sc_text [3, 0, 1, 3] ?_
    refine sr_pu rfl (fun _ => rd_field fo_api_Type_1 (ev_t rfl)) ?_
    refine sr_rd rfl (rd_load one_string (ev_t rfl) (fun _ => B1.at_ rfl)) ?_
    refine sr_pure rfl (rc_call go_types_name ev_f (args_cons (ev_t rfl) (args_nil)) rfl) (tname_ok _ _ (hL.grow g) (by have := g.size; omega)) (fun w8 g8 => ?_)
    have g := g.trans (g8)
    replace B1 := B1.grow (g8)
    refine sr_pu rfl (fun _ => rd_assign (ev_t rfl)) ?_
    refine sr_sub [(1, _, _), (2, _, _)] (sub_cons rfl (sub_cons rfl (sub_nil _))) ?_
    refine sr_nil (hK4 _ _ ?_)
    refine sc_ret (t_ret1 rfl rfl ?_)
    refine ⟨congrArg Value.bool ?_, g⟩; unfold validB; rw [h1]; rfl
  · (try simp only [bsimp] at h1)
    refine sc_skip (hK2 _ _ ?_)
    refine sc_sub [(1, _, _), (2, _, _)] (sub_cons rfl (sub_cons rfl (sub_nil _))) ?_
    refine sc_seq fun K5 hK5 => ?_
    refine sc_text [3, 0, 3, 3, 3, 0, 3, 3, 3, 3, 0, 3, 3, 3] ?_
    refine sr_pu rfl (fun _ => rd_field fo_api_Type_0 (ev_t rfl)) ?_
    refine sr_rd rfl (rd_load one_int (ev_t rfl) (fun _ => B1.at_ rfl)) ?_
    refine sr_pu rfl (fun _ => rd_ge (ev_t rfl) ev_c) ?_
    refine sr_pu rfl (fun _ => rd_move (ev_t rfl)) ?_
    refine sr_pug rfl rfl rfl (fun _ => rd_field fo_api_Type_0 (ev_t rfl)) ?_
    refine sr_rdg rfl rfl rfl (rd_load one_int (ev_u rfl id) (fun _ => B1.at_ rfl)) ?_
    refine sr_pug rfl rfl rfl (fun _ => rd_le (ev_u rfl id) ev_c) ?_
    refine sr_pu rfl (fun _ => rd_pick_and (ev_t rfl) (ev_u rfl id)) ?_
    refine sr_pu rfl (fun _ => rd_move (ev_t rfl)) ?_
    refine sr_pug rfl rfl rfl (fun _ => rd_field fo_api_Type_1 (ev_t rfl)) ?_
    refine sr_rdg rfl rfl rfl (rd_load one_string (ev_u rfl id) (fun _ => B1.at_ rfl)) ?_
    refine sr_pug rfl rfl rfl (fun _ => rd_seq (ev_u rfl id) ev_c) ?_
    refine sr_pu rfl (fun _ => rd_pick_and (ev_t rfl) (ev_u rfl id)) ?_
    refine sr_pu rfl (fun _ => rd_assign (ev_t rfl)) ?_
    refine sr_sub [(2, _, _)] (sub_cons rfl (sub_nil _)) ?_
    refine sr_nil (hK5 _ _ ?_)
    refine sc_ret (t_ret1 rfl rfl ?_)
    refine ⟨congrArg Value.bool ?_, g⟩; unfold validB; rw [h1]; rfl
theorem rvalid_ok (y : Ty) (w : World) : Ret PP fn_r05_Valid #[tyV y] w fun v w' => v = .bool (validB y) ∧ G w w' := by
  have g := G.refl w
  refine ret_of_sc (m := 22) func_r05_Valid rfl rfl [(0, True, _)] (sub_cons rfl (sub_nil _)) ?_
  refine sc_seq fun K1 hK1 => ?_
  refine sc_text [1, 3] ?_
  refine sr_box rfl (ev_t rfl) rfl ?_
  intro b1 w1 N1
  have l1 := N1.ge g
  have g := g.trans (N1.g)
  have B1 := N1.blk
  refine sr_pu rfl (fun _ => rd_assign ev_c) ?_
  refine sr_sub [(1, _, _), (2, _, _)] (sub_cons rfl (sub_cons rfl (sub_nil _))) ?_
  refine sr_nil (hK1 _ _ ?_)
  refine sc_seq fun K2 hK2 => ?_
  refine sc_seq fun K3 hK3 => ?_
  refine sc_text [3, 0, 3] ?_
  refine sr_pu rfl (fun _ => rd_field fo_api_Type_0 (ev_t rfl)) ?_
  refine sr_rd rfl (rd_load one_int (ev_t rfl) (fun _ => B1.at_ rfl)) ?_
  refine sr_pu rfl (fun _ => rd_eq (ev_t rfl) ev_c) ?_
  refine sr_sub [(1, _, _), (2, _, _), (5, _, _)] (sub_cons rfl (sub_cons rfl (sub_cons rfl (sub_nil _)))) ?_
  refine sr_nil (hK3 _ _ ?_)
  refine sc_cond (ev_t rfl) (fun h1 => ?_) (fun h1 => ?_)
  · (try simp only [bsimp] at h1)
    refine sc_seq fun K4 hK4 => ?_
    refine sc_text [3, 0, 1, 3] ?_
    refine sr_pu rfl (fun _ => rd_field fo_api_Type_1 (ev_t rfl)) ?_
    refine sr_rd rfl (rd_load one_string (ev_t rfl) (fun _ => B1.at_ rfl)) ?_
    refine sr_pure rfl (rc_call go_r02_Name ev_f (args_cons (ev_t rfl) (args_nil)) rfl) (rname_ok _ _) (fun w8 g8 => ?_)
    have g := g.trans (g8)
    replace B1 := B1.grow (g8)
    refine sr_pu rfl (fun _ => rd_assign (ev_t rfl)) ?_
    refine sr_sub [(1, _, _), (2, _, _)] (sub_cons rfl (sub_cons rfl (sub_nil _))) ?_
    refine sr_nil (hK4 _ _ ?_)
    refine sc_ret (t_ret1 rfl rfl ?_)
    refine ⟨congrArg Value.bool ?_, g⟩; unfold validB; rw [h1]; rfl
  · (try simp only [bsimp] at h1)
    refine sc_skip (hK2 _ _ ?_)
    refine sc_sub [(1, _, _), (2, _, _)] (sub_cons rfl (sub_cons rfl (sub_nil _))) ?_
    refine sc_seq fun K5 hK5 => ?_
    refine sc_text [3, 0, 3, 3, 3, 0, 3, 3, 3, 3, 0, 3, 3, 3] ?_
    refine sr_pu rfl (fun _ => rd_field fo_api_Type_0 (ev_t rfl)) ?_
    refine sr_rd rfl (rd_load one_int (ev_t rfl) (fun _ => B1.at_ rfl)) ?_
    refine sr_pu rfl (fun _ => rd_ge (ev_t rfl) ev_c) ?_
    refine sr_pu rfl (fun _ => rd_move (ev_t rfl)) ?_
    refine sr_pug rfl rfl rfl (fun _ => rd_field fo_api_Type_0 (ev_t rfl)) ?_
    refine sr_rdg rfl rfl rfl (rd_load one_int (ev_u rfl id) (fun _ => B1.at_ rfl)) ?_
    refine sr_pug rfl rfl rfl (fun _ => rd_le (ev_u rfl id) ev_c) ?_
    refine sr_pu rfl (fun _ => rd_pick_and (ev_t rfl) (ev_u rfl id)) ?_
    refine sr_pu rfl (fun _ => rd_move (ev_t rfl)) ?_
    refine sr_pug rfl rfl rfl (fun _ => rd_field fo_api_Type_1 (ev_t rfl)) ?_
    refine sr_rdg rfl rfl rfl (rd_load one_string (ev_u rfl id) (fun _ => B1.at_ rfl)) ?_
    refine sr_pug rfl rfl rfl (fun _ => rd_seq (ev_u rfl id) ev_c) ?_
    refine sr_pu rfl (fun _ => rd_pick_and (ev_t rfl) (ev_u rfl id)) ?_
    refine sr_pu rfl (fun _ => rd_assign (ev_t rfl)) ?_
    refine sr_sub [(2, _, _)] (sub_cons rfl (sub_nil _)) ?_
    refine sr_nil (hK5 _ _ ?_)
    refine sc_ret (t_ret1 rfl rfl ?_)
    refine ⟨congrArg Value.bool ?_, g⟩; unfold validB; rw [h1]; rfl
theorem tref_ok (y : Ty) (w : World) (hL : Laid w) (hb3 : 4 ≤ w.heap.size) : Ret PP fn_types_reference #[tyV y] w fun v w' => v = .bool (refB y) ∧ G w w' := by
  have g := G.refl w
  refine ret_of_sc (m := 12) func_types_reference rfl rfl [(0, True, _)] (sub_cons rfl (sub_nil _)) ?_
  refine sc_seq fun K1 hK1 => ?_
  refine sc_text [1, 3] ?_
  refine sr_box rfl (ev_t rfl) rfl ?_
  intro b1 w1 N1
  have l1 := N1.ge g
  have g := g.trans (N1.g)
  have B1 := N1.blk
  refine sr_pu rfl (fun _ => rd_assign ev_c) ?_
  refine sr_sub [(1, _, _), (2, _, _)] (sub_cons rfl (sub_cons rfl (sub_nil _))) ?_
  refine sr_nil (hK1 _ _ ?_)
  refine sc_seq fun K2 hK2 => ?_
  refine sc_seq fun K3 hK3 => ?_
  refine sc_text [3, 0] ?_
  refine sr_pu rfl (fun _ => rd_field fo_api_Type_0 (ev_t rfl)) ?_
  refine sr_rd rfl (rd_load one_int (ev_t rfl) (fun _ => B1.at_ rfl)) ?_
  refine sr_sub [(1, _, _), (2, _, _), (4, _, _)] (sub_cons rfl (sub_cons rfl (sub_cons rfl (sub_nil _)))) ?_
  refine sr_nil (hK3 _ _ ?_)
  refine sc_block ?_
  refine sc_seq fun K4 hK4 => ?_
  refine sc_seq fun K5 hK5 => ?_
  refine sc_text [3, 3] ?_
  refine sr_pu rfl (fun _ => rd_eq (ev_t rfl) ev_c) ?_
  refine sr_pu rfl (fun _ => rd_assign (ev_t rfl)) ?_
  refine sr_sub [(1, _, _), (2, _, _), (4, _, _), (5, _, _)] (sub_cons rfl (sub_cons rfl (sub_cons rfl (sub_cons rfl (sub_nil _))))) ?_
  refine sr_nil (hK5 _ _ ?_)
  refine' sc_or [(1, _, _), (2, _, _)] (sub_cons rfl (sub_cons rfl (sub_cons rfl (sub_nil _)))) rfl (fun hb1 => ?y1) (hK4 _ _ ?n1)
  case y1 =>
   refine sc_seq fun K6 hK6 => ?_
   refine sc_text [3, 3] ?_
   refine sr_pu rfl (fun _ => rd_eq (ev_t rfl) ev_c) ?_
   refine sr_pu rfl (fun _ => rd_assign (ev_t rfl)) ?_
   refine sr_sub [(1, _, _), (2, _, _), (4, _, _), (5, _, _)] (sub_cons rfl (sub_cons rfl (sub_cons rfl (sub_cons rfl (sub_nil _))))) ?_
   refine sr_nil (hK6 _ _ ?_)
   refine' sc_or [(1, _, _), (2, _, _)] (sub_cons rfl (sub_cons rfl (sub_cons rfl (sub_nil _)))) rfl (fun hb2 => ?y2) (fun a ha => ⟨ha, rfl⟩)
   case y2 =>
    refine sc_seq fun K7 hK7 => ?_
    refine sc_text [3, 3] ?_
    refine sr_pu rfl (fun _ => rd_eq (ev_t rfl) ev_c) ?_
    refine sr_pu rfl (fun _ => rd_assign (ev_t rfl)) ?_
    refine sr_sub [(1, _, _), (2, _, _), (4, _, _), (5, _, _)] (sub_cons rfl (sub_cons rfl (sub_cons rfl (sub_cons rfl (sub_nil _))))) ?_
    refine sr_nil (hK7 _ _ ?_)
    refine' sc_or [(1, _, _), (2, _, _)] (sub_cons rfl (sub_cons rfl (sub_cons rfl (sub_nil _)))) rfl (fun hb3 => ?y3) (fun a ha => ⟨ha, rfl⟩)
    case y3 =>
     refine sc_text [3, 3] ?_
     refine sr_pu rfl (fun _ => rd_eq (ev_t rfl) ev_c) ?_
     refine sr_pu rfl (fun _ => rd_assign (ev_t rfl)) ?_
     refine sr_sub [(5, _, _), (1, _, _), (2, _, _)] (sub_cons rfl (sub_cons rfl (sub_cons rfl (sub_nil _)))) ?_
     exact sr_nil (fun a ha => ⟨ha, rfl⟩)
  case n1 =>
   refine sc_cond (ev_t rfl) (fun h4 => ?_) (fun h4 => ?_)
   · have hq : anyK [4, 5, 6, 7] y.kind = true := h4
     refine sc_seq fun K8 hK8 => ?_
     refine sc_text [0, 1, 3] ?_
     refine sr_rd rfl (rd_loads agg_api_Type (ev_t rfl) rfl (fun _ => B1.row)) ?_
     refine sr_pure rfl (rc_call go_types_valid ev_f (args_cons (ev_t rfl) (args_nil)) rfl) (tvalid_ok _ _ (hL.grow g) (by have := g.size; omega)) (fun w11 g11 => ?_)
     have g := g.trans (g11)
     replace B1 := B1.grow (g11)
     refine sr_pu rfl (fun _ => rd_assign (ev_t rfl)) ?_
     refine sr_sub [(2, _, _)] (sub_cons rfl (sub_nil _)) ?_
     refine sr_nil (hK8 _ _ ?_)
     refine sc_ret (t_ret1 rfl rfl ?_)
     refine ⟨congrArg Value.bool ?_, g⟩; unfold refB; rw [hq]; rfl
   · have hq : anyK [4, 5, 6, 7] y.kind = false := h4
     refine sc_skip (hK2 _ _ ?_)
     refine sc_sub [(2, _, _)] (sub_cons rfl (sub_nil _)) ?_
     refine sc_seq fun K9 hK9 => ?_
     refine sc_text [3] ?_
     refine sr_pu rfl (fun _ => rd_assign ev_c) ?_
     refine sr_nil (hK9 _ _ ?_)
     refine sc_ret (t_ret1 rfl rfl ?_)
     refine ⟨congrArg Value.bool ?_, g⟩; unfold refB; rw [hq]; rfl
theorem rref_eq (y : Ty) : ((validB y && decide (4 ≤ y.kind)) && decide (y.kind ≤ 7)) = refB y := by
  unfold refB
  by_cases h : 4 ≤ y.kind ∧ y.kind ≤ 7
  · rw [decide_eq_true h.1, decide_eq_true h.2]
    have : anyK [4, 5, 6, 7] y.kind = true := by
      simp only [anyK, Bool.or_eq_true, decide_eq_true_eq]; omega
    rw [this]; simp
  · have : anyK [4, 5, 6, 7] y.kind = false := by
      simp only [anyK, Bool.or_eq_false_iff, decide_eq_false_iff_not]; omega
    rw [this, cond_false, Bool.and_eq_false_iff, Bool.and_eq_false_iff, decide_eq_false_iff_not, decide_eq_false_iff_not]
    omega
theorem rref_ok (y : Ty) (w : World) : Ret PP fn_r05_Reference #[tyV y] w fun v w' => v = .bool (refB y) ∧ G w w' := by
  have g := G.refl w
  refine ret_of_sc (m := 15) func_r05_Reference rfl rfl [(0, True, _)] (sub_cons rfl (sub_nil _)) ?_
  refine sc_seq fun K1 hK1 => ?_
  refine sc_text [1, 3] ?_
  refine sr_box rfl (ev_t rfl) rfl ?_
  intro b1 w1 N1
  have l1 := N1.ge g
  have g := g.trans (N1.g)
  have B1 := N1.blk
  refine sr_pu rfl (fun _ => rd_assign ev_c) ?_
  refine sr_sub [(1, _, _), (2, _, _)] (sub_cons rfl (sub_cons rfl (sub_nil _))) ?_
  refine sr_nil (hK1 _ _ ?_)
  refine sc_seq fun K2 hK2 => ?_
  refine sc_text [0, 1, 3, 3, 0, 3, 3, 3, 3, 0, 3, 3, 3] ?_
  refine sr_rd rfl (rd_loads agg_api_Type (ev_t rfl) rfl (fun _ => B1.row)) ?_
  refine sr_pure rfl (rc_call go_r05_Valid ev_f (args_cons (ev_t rfl) (args_nil)) rfl) (rvalid_ok _ _) (fun w4 g4 => ?_)
  have g := g.trans (g4)
  replace B1 := B1.grow (g4)
  refine sr_pu rfl (fun _ => rd_move (ev_t rfl)) ?_
  refine sr_pug rfl rfl rfl (fun _ => rd_field fo_api_Type_0 (ev_t rfl)) ?_
  refine sr_rdg rfl rfl rfl (rd_load one_int (ev_u rfl id) (fun _ => B1.at_ rfl)) ?_
  refine sr_pug rfl rfl rfl (fun _ => rd_ge (ev_u rfl id) ev_c) ?_
  refine sr_pu rfl (fun _ => rd_pick_and (ev_t rfl) (ev_u rfl id)) ?_
  refine sr_pu rfl (fun _ => rd_move (ev_t rfl)) ?_
  refine sr_pug rfl rfl rfl (fun _ => rd_field fo_api_Type_0 (ev_t rfl)) ?_
  refine sr_rdg rfl rfl rfl (rd_load one_int (ev_u rfl id) (fun _ => B1.at_ rfl)) ?_
  refine sr_pug rfl rfl rfl (fun _ => rd_le (ev_u rfl id) ev_c) ?_
  refine sr_pu rfl (fun _ => rd_pick_and (ev_t rfl) (ev_u rfl id)) ?_
  refine sr_pu rfl (fun _ => rd_assign (ev_t rfl)) ?_
  refine sr_sub [(2, _, _)] (sub_cons rfl (sub_nil _)) ?_
  refine sr_nil (hK2 _ _ ?_)
  refine sc_ret (t_ret1 rfl rfl ?_)
  refine ⟨congrArg Value.bool ?_, g⟩; exact rref_eq y
theorem tvalue_ok (y : Ty) (w : World) (hL : Laid w) (hb3 : 4 ≤ w.heap.size) : Ret PP fn_types_Value #[tyV y] w fun v w' => v = .bool (valueB y) ∧ G w w' := by
  have g := G.refl w
  refine ret_of_sc (m := 15) func_types_Value rfl rfl [(0, True, _)] (sub_cons rfl (sub_nil _)) ?_
  refine sc_seq fun K1 hK1 => ?_
  refine sc_text [1, 3] ?_
  refine sr_box rfl (ev_t rfl) rfl ?_
  intro b1 w1 N1
  have l1 := N1.ge g
  have g := g.trans (N1.g)
  have B1 := N1.blk
  refine sr_pu rfl (fun _ => rd_assign ev_c) ?_
  refine sr_sub [(1, _, _), (2, _, _)] (sub_cons rfl (sub_cons rfl (sub_nil _))) ?_
  refine sr_nil (hK1 _ _ ?_)
  refine sc_seq fun K2 hK2 => ?_
  refine sc_text [0, 3, 3, 3, 0, 3, 3, 3, 3, 0, 1, 3, 3] ?_
  refine sr_rd rfl (rd_loads agg_api_Type (ev_t rfl) rfl (fun _ => B1.row)) ?_
  refine sr_pu rfl (fun _ => rd_build [_, _] ze_api_Type rfl pl_api_Type (parts_cons ev_c (parts_nil)) rfl) ?_
  refine sr_pu rfl (fun _ => rd_steq fl_api_Type (ev_t rfl) (ev_t rfl) rfl) ?_
  refine sr_pu rfl (fun _ => rd_move (ev_t rfl)) ?_
  refine sr_rdg rfl rfl rfl (rd_loads agg_api_Type (ev_t rfl) rfl (fun _ => B1.row)) ?_
  refine sr_pug rfl rfl rfl (fun _ => rd_build [_, _] ze_api_Type rfl pl_api_Type (parts_cons ev_c (parts_nil)) rfl) ?_
  refine sr_pug rfl rfl rfl (fun _ => rd_steq fl_api_Type (ev_u rfl id) (ev_u rfl id) rfl) ?_
  refine sr_pu rfl (fun _ => rd_pick_or (ev_t rfl) (ev_u rfl id)) ?_
  refine sr_pu rfl (fun _ => rd_move (ev_t rfl)) ?_
  refine sr_rdg rfl rfl rfl (rd_loads agg_api_Type (ev_t rfl) rfl (fun _ => B1.row)) ?_
  refine sr_pureg rfl rfl rfl (fun _ => (rc_call go_types_reference ev_f (args_cons (ev_u rfl id) (args_nil)) rfl)) (fun hc => tref_ok _ _ (hL.grow g) (by have := g.size; omega)) (fun w13 g13 => ?_)
  have g := g.trans (g13)
  replace B1 := B1.grow (g13)
  refine sr_pu rfl (fun _ => rd_pick_or (ev_t rfl) (ev_u rfl id)) ?_
  refine sr_pu rfl (fun _ => rd_assign (ev_t rfl)) ?_
  refine sr_sub [(2, _, _)] (sub_cons rfl (sub_nil _)) ?_
  refine sr_nil (hK2 _ _ ?_)
  refine sc_ret (t_ret1 rfl rfl ?_)
  exact ⟨rfl, g⟩
theorem rvalue_ok (y : Ty) (w : World) : Ret PP fn_r05_Value #[tyV y] w fun v w' => v = .bool (valueB y) ∧ G w w' := by
  have g := G.refl w
  refine ret_of_sc (m := 15) func_r05_Value rfl rfl [(0, True, _)] (sub_cons rfl (sub_nil _)) ?_
  refine sc_seq fun K1 hK1 => ?_
  refine sc_text [1, 3] ?_
  refine sr_box rfl (ev_t rfl) rfl ?_
  intro b1 w1 N1
  have l1 := N1.ge g
  have g := g.trans (N1.g)
  have B1 := N1.blk
  refine sr_pu rfl (fun _ => rd_assign ev_c) ?_
  refine sr_sub [(1, _, _), (2, _, _)] (sub_cons rfl (sub_cons rfl (sub_nil _))) ?_
  refine sr_nil (hK1 _ _ ?_)
  refine sc_seq fun K2 hK2 => ?_
  refine sc_text [0, 3, 3, 3, 0, 3, 3, 3, 3, 0, 1, 3, 3] ?_
  refine sr_rd rfl (rd_loads agg_api_Type (ev_t rfl) rfl (fun _ => B1.row)) ?_
  refine sr_pu rfl (fun _ => rd_build [_, _] ze_api_Type rfl pl_api_Type (parts_cons ev_c (parts_nil)) rfl) ?_
  refine sr_pu rfl (fun _ => rd_steq fl_api_Type (ev_t rfl) (ev_t rfl) rfl) ?_
  refine sr_pu rfl (fun _ => rd_move (ev_t rfl)) ?_
  refine sr_rdg rfl rfl rfl (rd_loads agg_api_Type (ev_t rfl) rfl (fun _ => B1.row)) ?_
  refine sr_pug rfl rfl rfl (fun _ => rd_build [_, _] ze_api_Type rfl pl_api_Type (parts_cons ev_c (parts_nil)) rfl) ?_
  refine sr_pug rfl rfl rfl (fun _ => rd_steq fl_api_Type (ev_u rfl id) (ev_u rfl id) rfl) ?_
  refine sr_pu rfl (fun _ => rd_pick_or (ev_t rfl) (ev_u rfl id)) ?_
  refine sr_pu rfl (fun _ => rd_move (ev_t rfl)) ?_
  refine sr_rdg rfl rfl rfl (rd_loads agg_api_Type (ev_t rfl) rfl (fun _ => B1.row)) ?_
  refine sr_pureg rfl rfl rfl (fun _ => (rc_call go_r05_Reference ev_f (args_cons (ev_u rfl id) (args_nil)) rfl)) (fun hc => rref_ok _ _) (fun w13 g13 => ?_)
  have g := g.trans (g13)
  replace B1 := B1.grow (g13)
  refine sr_pu rfl (fun _ => rd_pick_or (ev_t rfl) (ev_u rfl id)) ?_
  refine sr_pu rfl (fun _ => rd_assign (ev_t rfl)) ?_
  refine sr_sub [(2, _, _)] (sub_cons rfl (sub_nil _)) ?_
  refine sr_nil (hK2 _ _ ?_)
  refine sc_ret (t_ret1 rfl rfl ?_)
  exact ⟨rfl, g⟩
theorem tassign_ok (a b : Ty) (w : World) (hL : Laid w) (hb3 : 4 ≤ w.heap.size) : Ret PP fn_types_Assignable #[tyV a, tyV b] w fun v w' => v = .bool (assignB a b) ∧ G w w' := by
  have g := G.refl w
  refine ret_of_sc (m := 21) func_types_Assignable rfl rfl [(0, True, _), (1, True, _)] (sub_cons rfl (sub_cons rfl (sub_nil _))) ?_
  refine sc_seq fun K1 hK1 => ?_
  refine sc_text [1, 1, 3] ?_
  refine sr_box rfl (ev_t rfl) rfl ?_
  intro b2 w2 N2
  have l2 := N2.ge g
  have g := g.trans (N2.g)
  have B2 := N2.blk
  refine sr_box rfl (ev_t rfl) rfl ?_
  intro b3 w3 N3
  have x3_2 := N3.ne B2
  have l3 := N3.ge g
  have g := g.trans (N3.g)
  replace B2 := B2.grow (N3.g)
  have B3 := N3.blk
  refine sr_pu rfl (fun _ => rd_assign ev_c) ?_
  refine sr_sub [(2, _, _), (3, _, _), (4, _, _)] (sub_cons rfl (sub_cons rfl (sub_cons rfl (sub_nil _)))) ?_
  refine sr_nil (hK1 _ _ ?_)
  refine sc_seq fun K2 hK2 => ?_
  refine sc_text [0, 1, 3, 0, 0, 3, 3, 0, 3, 3, 3, 0, 1, 3, 3, 3, 3] ?_
  refine sr_rd rfl (rd_loads agg_api_Type (ev_t rfl) rfl (fun _ => B2.row)) ?_
  refine sr_pure rfl (rc_call go_types_Value ev_f (args_cons (ev_t rfl) (args_nil)) rfl) (tvalue_ok _ _ (hL.grow g) (by have := g.size; omega)) (fun w6 g6 => ?_)
  have g := g.trans (g6)
  replace B2 := B2.grow (g6)
  replace B3 := B3.grow (g6)
  refine sr_pu rfl (fun _ => rd_move (ev_t rfl)) ?_
  refine sr_rdg rfl rfl rfl (rd_loads agg_api_Type (ev_t rfl) rfl (fun _ => B3.row)) ?_
  refine sr_rdg rfl rfl rfl (rd_loads agg_api_Type (ev_t rfl) rfl (fun _ => B2.row)) ?_
  refine sr_pug rfl rfl rfl (fun _ => rd_steq fl_api_Type (ev_u rfl id) (ev_u rfl id) rfl) ?_
  refine sr_pug rfl rfl rfl (fun _ => rd_move (ev_u rfl id)) ?_
  refine sr_rdg rfl rfl rfl (rd_loads agg_api_Type (ev_t rfl) rfl (fun _ => B3.row)) ?_
  refine sr_pug rfl rfl rfl (fun _ => rd_build [_, _] ze_api_Type rfl pl_api_Type (parts_cons ev_c (parts_nil)) rfl) ?_
  refine sr_pug rfl rfl rfl (fun _ => rd_steq fl_api_Type (ev_u rfl id) (ev_u rfl id) rfl) ?_
  refine sr_pug rfl rfl rfl (fun _ => rd_move (ev_u rfl id)) ?_
  refine sr_rdg rfl rfl rfl (rd_loads agg_api_Type (ev_t rfl) rfl (fun _ => B2.row)) ?_
  refine sr_pureg rfl rfl rfl (fun _ => (rc_call go_types_reference ev_f (args_cons (ev_u rfl id) (args_nil)) rfl)) (fun hc => tref_ok _ _ (hL.grow g) (by have := g.size; omega)) (fun w17 g17 => ?_)
  have g := g.trans (g17)
  replace B2 := B2.grow (g17)
  replace B3 := B3.grow (g17)
  refine sr_pug rfl rfl rfl (fun _ => rd_pick_and (ev_u rfl id) (ev_u rfl id)) ?_
  refine sr_pug rfl rfl rfl (fun _ => rd_pick_or (ev_u rfl id) (ev_u rfl id)) ?_
  refine sr_pu rfl (fun _ => rd_pick_and (ev_t rfl) (ev_u rfl id)) ?_
  refine sr_pu rfl (fun _ => rd_assign (ev_t rfl)) ?_
  refine sr_sub [(4, _, _)] (sub_cons rfl (sub_nil _)) ?_
  refine sr_nil (hK2 _ _ ?_)
  refine sc_ret (t_ret1 rfl rfl ?_)
  exact ⟨rfl, g⟩
theorem rassign_ok (a b : Ty) (w : World) : Ret PP fn_r05_Assignable #[tyV a, tyV b] w fun v w' => v = .bool (assignB a b) ∧ G w w' := by
  have g := G.refl w
  refine ret_of_sc (m := 21) func_r05_Assignable rfl rfl [(0, True, _), (1, True, _)] (sub_cons rfl (sub_cons rfl (sub_nil _))) ?_
  refine sc_seq fun K1 hK1 => ?_
  refine sc_text [1, 1, 3] ?_
  refine sr_box rfl (ev_t rfl) rfl ?_
  intro b2 w2 N2
  have l2 := N2.ge g
  have g := g.trans (N2.g)
  have B2 := N2.blk
  refine sr_box rfl (ev_t rfl) rfl ?_
  intro b3 w3 N3
  have x3_2 := N3.ne B2
  have l3 := N3.ge g
  have g := g.trans (N3.g)
  replace B2 := B2.grow (N3.g)
  have B3 := N3.blk
  refine sr_pu rfl (fun _ => rd_assign ev_c) ?_
  refine sr_sub [(2, _, _), (3, _, _), (4, _, _)] (sub_cons rfl (sub_cons rfl (sub_cons rfl (sub_nil _)))) ?_
  refine sr_nil (hK1 _ _ ?_)
  refine sc_seq fun K2 hK2 => ?_
  refine sc_text [0, 1, 3, 0, 0, 3, 3, 0, 3, 3, 3, 0, 1, 3, 3, 3, 3] ?_
  refine sr_rd rfl (rd_loads agg_api_Type (ev_t rfl) rfl (fun _ => B2.row)) ?_
  refine sr_pure rfl (rc_call go_r05_Value ev_f (args_cons (ev_t rfl) (args_nil)) rfl) (rvalue_ok _ _) (fun w6 g6 => ?_)
  have g := g.trans (g6)
  replace B2 := B2.grow (g6)
  replace B3 := B3.grow (g6)
  refine sr_pu rfl (fun _ => rd_move (ev_t rfl)) ?_
  refine sr_rdg rfl rfl rfl (rd_loads agg_api_Type (ev_t rfl) rfl (fun _ => B2.row)) ?_
  refine sr_rdg rfl rfl rfl (rd_loads agg_api_Type (ev_t rfl) rfl (fun _ => B3.row)) ?_
  refine sr_pug rfl rfl rfl (fun _ => rd_steq fl_api_Type (ev_u rfl id) (ev_u rfl id) rfl) ?_
  refine sr_pug rfl rfl rfl (fun _ => rd_move (ev_u rfl id)) ?_
  refine sr_rdg rfl rfl rfl (rd_loads agg_api_Type (ev_t rfl) rfl (fun _ => B3.row)) ?_
  refine sr_pug rfl rfl rfl (fun _ => rd_build [_, _] ze_api_Type rfl pl_api_Type (parts_cons ev_c (parts_nil)) rfl) ?_
  refine sr_pug rfl rfl rfl (fun _ => rd_steq fl_api_Type (ev_u rfl id) (ev_u rfl id) rfl) ?_
  refine sr_pug rfl rfl rfl (fun _ => rd_move (ev_u rfl id)) ?_
  refine sr_rdg rfl rfl rfl (rd_loads agg_api_Type (ev_t rfl) rfl (fun _ => B2.row)) ?_
  refine sr_pureg rfl rfl rfl (fun _ => (rc_call go_r05_Reference ev_f (args_cons (ev_u rfl id) (args_nil)) rfl)) (fun hc => rref_ok _ _) (fun w17 g17 => ?_)
  have g := g.trans (g17)
  replace B2 := B2.grow (g17)
  replace B3 := B3.grow (g17)
  refine sr_pug rfl rfl rfl (fun _ => rd_pick_and (ev_u rfl id) (ev_u rfl id)) ?_
  refine sr_pug rfl rfl rfl (fun _ => rd_pick_or (ev_u rfl id) (ev_u rfl id)) ?_
  refine sr_pu rfl (fun _ => rd_pick_and (ev_t rfl) (ev_u rfl id)) ?_
  refine sr_pu rfl (fun _ => rd_assign (ev_t rfl)) ?_
  refine sr_sub [(4, _, _)] (sub_cons rfl (sub_nil _)) ?_
  refine sr_nil (hK2 _ _ ?_)
  refine sc_ret (t_ret1 rfl rfl ?_)
  refine ⟨congrArg Value.bool ?_, g⟩
  unfold assignB; rw [tyEqB_comm b a]; rfl
theorem tcomp_ok (a b : Ty) (w : World) (hL : Laid w) (hb3 : 4 ≤ w.heap.size) : Ret PP fn_types_Comparable #[tyV a, tyV b] w fun v w' => v = .bool (compB a b) ∧ G w w' := by
  have g := G.refl w
  refine ret_of_sc (m := 35) func_types_Comparable rfl rfl [(0, True, _), (1, True, _)] (sub_cons rfl (sub_cons rfl (sub_nil _))) ?_
  refine sc_seq fun K1 hK1 => ?_
  refine sc_text [1, 1, 3] ?_
  refine sr_box rfl (ev_t rfl) rfl ?_
  intro b2 w2 N2
  have l2 := N2.ge g
  have g := g.trans (N2.g)
  have B2 := N2.blk
  refine sr_box rfl (ev_t rfl) rfl ?_
  intro b3 w3 N3
  have x3_2 := N3.ne B2
  have l3 := N3.ge g
  have g := g.trans (N3.g)
  replace B2 := B2.grow (N3.g)
  have B3 := N3.blk
  refine sr_pu rfl (fun _ => rd_assign ev_c) ?_
  refine sr_sub [(2, _, _), (3, _, _), (4, _, _)] (sub_cons rfl (sub_cons rfl (sub_cons rfl (sub_nil _)))) ?_
  refine sr_nil (hK1 _ _ ?_)
  refine sc_seq fun K2 hK2 => ?_
  refine sc_text [3, 1, 2] ?_
  refine sr_pu rfl (fun _ => rd_build [_, _] ze_api_Type rfl pl_api_Type (parts_cons ev_c (parts_nil)) rfl) ?_
  refine sr_alloc rfl ze_api_Type rfl ?_
  intro b5 w5 N5
  have x5_2 := N5.ne B2
  have x5_3 := N5.ne B3
  have l5 := N5.ge g
  have g := g.trans (N5.g)
  replace B2 := B2.grow (N5.g)
  replace B3 := B3.grow (N5.g)
  have B5 := N5.blk
  refine sr_store_all rfl sz_api_Type (ev_t rfl) (ev_t rfl) rfl rfl B5 rfl rfl ?_
  intro wS1 hgS1 hzS1
  clear B5
  intro B5
  replace B2 := B2.keep hgS1 (by intro h; injection h with h; omega)
  replace B3 := B3.keep hgS1 (by intro h; injection h with h; omega)
  have g := g_only g hgS1 (by intro k hk; injection hk with hk; omega)
  refine sr_sub [(2, _, _), (3, _, _), (4, _, _), (5, _, _)] (sub_cons rfl (sub_cons rfl (sub_cons rfl (sub_cons rfl (sub_nil _))))) ?_
  refine sr_nil (hK2 _ _ ?_)
  refine sc_seq fun K3 hK3 => ?_
  refine sc_seq fun K4 hK4 => ?_
  refine sc_text [0, 0, 3, 3, 0, 0, 3, 3] ?_
  refine sr_rd rfl (rd_loads agg_api_Type (ev_t rfl) rfl (fun _ => B2.row)) ?_
  refine sr_rd rfl (rd_loads agg_api_Type (ev_t rfl) rfl (fun _ => B5.row)) ?_
  refine sr_pu rfl (fun _ => rd_steq fl_api_Type (ev_t rfl) (ev_t rfl) rfl) ?_
  refine sr_pu rfl (fun _ => rd_move (ev_t rfl)) ?_
  refine sr_rdg rfl rfl rfl (rd_loads agg_api_Type (ev_t rfl) rfl (fun _ => B3.row)) ?_
  refine sr_rdg rfl rfl rfl (rd_loads agg_api_Type (ev_t rfl) rfl (fun _ => B5.row)) ?_
  refine sr_pug rfl rfl rfl (fun _ => rd_steq fl_api_Type (ev_u rfl id) (ev_u rfl id) rfl) ?_
  refine sr_pu rfl (fun _ => rd_pick_or (ev_t rfl) (ev_u rfl id)) ?_
  refine sr_sub [(2, _, _), (3, _, _), (4, _, _), (14, _, _)] (sub_cons rfl (sub_cons rfl (sub_cons rfl (sub_cons rfl (sub_nil _))))) ?_
  refine sr_nil (hK4 _ _ ?_)
  refine sc_cond (ev_t rfl) (fun h1 => ?_) (fun h1 => ?_)
  · have hq : (tyEqB a tNil || tyEqB b tNil) = true := h1
    refine sc_seq fun K5 hK5 => ?_
    refine sc_text [0, 1, 3, 0, 1, 3, 3] ?_
    refine sr_rd rfl (rd_loads agg_api_Type (ev_t rfl) rfl (fun _ => B2.row)) ?_
    refine sr_pure rfl (rc_call go_types_reference ev_f (args_cons (ev_t rfl) (args_nil)) rfl) (tref_ok _ _ (hL.grow g) (by have := g.size; omega)) (fun w16 g16 => ?_)
    have g := g.trans (g16)
    replace B2 := B2.grow (g16)
    replace B3 := B3.grow (g16)
    replace B5 := B5.grow (g16)
    refine sr_pu rfl (fun _ => rd_move (ev_t rfl)) ?_
    refine sr_rdg rfl rfl rfl (rd_loads agg_api_Type (ev_t rfl) rfl (fun _ => B3.row)) ?_
    refine sr_pureg rfl rfl rfl (fun _ => (rc_call go_types_reference ev_f (args_cons (ev_u rfl id) (args_nil)) rfl)) (fun hc => tref_ok _ _ (hL.grow g) (by have := g.size; omega)) (fun w19 g19 => ?_)
    have g := g.trans (g19)
    replace B2 := B2.grow (g19)
    replace B3 := B3.grow (g19)
    replace B5 := B5.grow (g19)
    refine sr_pu rfl (fun _ => rd_pick_or (ev_t rfl) (ev_u rfl id)) ?_
    refine sr_pu rfl (fun _ => rd_assign (ev_t rfl)) ?_
    refine sr_sub [(2, _, _), (3, _, _), (4, _, _)] (sub_cons rfl (sub_cons rfl (sub_cons rfl (sub_nil _)))) ?_
    refine sr_nil (hK5 _ _ ?_)
    refine sc_ret (t_ret1 rfl rfl ?_)
    refine ⟨congrArg Value.bool ?_, g⟩; unfold compB; rw [hq]; rfl
  · have hq : (tyEqB a tNil || tyEqB b tNil) = false := h1
    refine sc_skip (hK3 _ _ ?_)
    refine sc_sub [(2, _, _), (3, _, _), (4, _, _)] (sub_cons rfl (sub_cons rfl (sub_cons rfl (sub_nil _)))) ?_
    refine sc_seq fun K6 hK6 => ?_
    refine sc_seq fun K7 hK7 => ?_
    refine sc_text [3, 0] ?_
    refine sr_pu rfl (fun _ => rd_field fo_api_Type_0 (ev_t rfl)) ?_
    refine sr_rd rfl (rd_load one_int (ev_t rfl) (fun _ => B2.at_ rfl)) ?_
    refine sr_sub [(2, _, _), (3, _, _), (4, _, _), (22, _, _)] (sub_cons rfl (sub_cons rfl (sub_cons rfl (sub_cons rfl (sub_nil _))))) ?_
    refine sr_nil (hK7 _ _ ?_)
    refine sc_block ?_
    refine sc_seq fun K8 hK8 => ?_
    refine sc_seq fun K9 hK9 => ?_
    refine sc_text [3, 3] ?_
    refine sr_pu rfl (fun _ => rd_eq (ev_t rfl) ev_c) ?_
    refine sr_pu rfl (fun _ => rd_assign (ev_t rfl)) ?_
    refine sr_sub [(2, _, _), (3, _, _), (4, _, _), (22, _, _), (23, _, _)] (sub_cons rfl (sub_cons rfl (sub_cons rfl (sub_cons rfl (sub_cons rfl (sub_nil _)))))) ?_
    refine sr_nil (hK9 _ _ ?_)
    refine' sc_or [(2, _, _), (3, _, _), (4, _, _)] (sub_cons rfl (sub_cons rfl (sub_cons rfl (sub_cons rfl (sub_nil _))))) rfl (fun hb2 => ?y2) (hK8 _ _ ?n2)
    case y2 =>
     refine sc_seq fun K10 hK10 => ?_
     refine sc_text [3, 3] ?_
     refine sr_pu rfl (fun _ => rd_eq (ev_t rfl) ev_c) ?_
     refine sr_pu rfl (fun _ => rd_assign (ev_t rfl)) ?_
     refine sr_sub [(2, _, _), (3, _, _), (4, _, _), (22, _, _), (23, _, _)] (sub_cons rfl (sub_cons rfl (sub_cons rfl (sub_cons rfl (sub_cons rfl (sub_nil _)))))) ?_
     refine sr_nil (hK10 _ _ ?_)
     refine' sc_or [(2, _, _), (3, _, _), (4, _, _)] (sub_cons rfl (sub_cons rfl (sub_cons rfl (sub_cons rfl (sub_nil _))))) rfl (fun hb3 => ?y3) (fun a ha => ⟨ha, rfl⟩)
     case y3 =>
      refine sc_seq fun K11 hK11 => ?_
      refine sc_text [3, 3] ?_
      refine sr_pu rfl (fun _ => rd_eq (ev_t rfl) ev_c) ?_
      refine sr_pu rfl (fun _ => rd_assign (ev_t rfl)) ?_
      refine sr_sub [(2, _, _), (3, _, _), (4, _, _), (22, _, _), (23, _, _)] (sub_cons rfl (sub_cons rfl (sub_cons rfl (sub_cons rfl (sub_cons rfl (sub_nil _)))))) ?_
      refine sr_nil (hK11 _ _ ?_)
      refine' sc_or [(2, _, _), (3, _, _), (4, _, _)] (sub_cons rfl (sub_cons rfl (sub_cons rfl (sub_cons rfl (sub_nil _))))) rfl (fun hb4 => ?y4) (fun a ha => ⟨ha, rfl⟩)
      case y4 =>
       refine sc_text [3, 3] ?_
       refine sr_pu rfl (fun _ => rd_eq (ev_t rfl) ev_c) ?_
       refine sr_pu rfl (fun _ => rd_assign (ev_t rfl)) ?_
       refine sr_sub [(23, _, _), (2, _, _), (3, _, _), (4, _, _)] (sub_cons rfl (sub_cons rfl (sub_cons rfl (sub_cons rfl (sub_nil _))))) ?_
       exact sr_nil (fun a ha => ⟨ha, rfl⟩)
    case n2 =>
     refine sc_cond (ev_t rfl) (fun h5 => ?_) (fun h5 => ?_)
     · have hr : anyK [1, 2, 4, 6] a.kind = true := h5
       refine sc_seq fun K12 hK12 => ?_
       refine sc_text [0, 0, 3, 3, 0, 1, 3, 3] ?_
       refine sr_rd rfl (rd_loads agg_api_Type (ev_t rfl) rfl (fun _ => B2.row)) ?_
       refine sr_rd rfl (rd_loads agg_api_Type (ev_t rfl) rfl (fun _ => B3.row)) ?_
       refine sr_pu rfl (fun _ => rd_steq fl_api_Type (ev_t rfl) (ev_t rfl) rfl) ?_
       refine sr_pu rfl (fun _ => rd_move (ev_t rfl)) ?_
       refine sr_rdg rfl rfl rfl (rd_loads agg_api_Type (ev_t rfl) rfl (fun _ => B2.row)) ?_
       refine sr_pureg rfl rfl rfl (fun _ => (rc_call go_types_valid ev_f (args_cons (ev_u rfl id) (args_nil)) rfl)) (fun hc => tvalid_ok _ _ (hL.grow g) (by have := g.size; omega)) (fun w33 g33 => ?_)
       have g := g.trans (g33)
       replace B2 := B2.grow (g33)
       replace B3 := B3.grow (g33)
       replace B5 := B5.grow (g33)
       refine sr_pu rfl (fun _ => rd_pick_and (ev_t rfl) (ev_u rfl id)) ?_
       refine sr_pu rfl (fun _ => rd_assign (ev_t rfl)) ?_
       refine sr_sub [(4, _, _)] (sub_cons rfl (sub_nil _)) ?_
       refine sr_nil (hK12 _ _ ?_)
       refine sc_ret (t_ret1 rfl rfl ?_)
       refine ⟨congrArg Value.bool ?_, g⟩; unfold compB; rw [hq, hr]; rfl
     · have hr : anyK [1, 2, 4, 6] a.kind = false := h5
       refine sc_skip (hK6 _ _ ?_)
       refine sc_sub [(4, _, _)] (sub_cons rfl (sub_nil _)) ?_
       refine sc_seq fun K13 hK13 => ?_
       refine sc_text [3] ?_
       refine sr_pu rfl (fun _ => rd_assign ev_c) ?_
       refine sr_nil (hK13 _ _ ?_)
       refine sc_ret (t_ret1 rfl rfl ?_)
       refine ⟨congrArg Value.bool ?_, g⟩; unfold compB; rw [hq, hr]; rfl
theorem rcomp_eq (a b : Ty) : (((tyEqB a b && valueB a) && !decide (a.kind = 5)) && !decide (a.kind = 7)) = (bif anyK [1, 2, 4, 6] a.kind then tyEqB a b && validB a else false) := by
  cases tyEqB a b
  · simp
  · simp only [Bool.true_and]
    unfold valueB refB anyK anyK anyK anyK
    by_cases h1 : a.kind = 1
    · have : tyEqB a tInt = validB a := by unfold tyEqB validB; simp [h1, tInt]; exact decide_eq_decide.2 Iff.rfl
      have : tyEqB a tBool = false := by unfold tyEqB; simp [h1, tBool]
      simp_all
    · by_cases h2 : a.kind = 2
      · have : tyEqB a tBool = validB a := by unfold tyEqB validB; simp [h2, tBool]; exact decide_eq_decide.2 Iff.rfl
        have : tyEqB a tInt = false := by unfold tyEqB; simp [h2, tInt]
        simp_all
      · have e1 : tyEqB a tInt = false := by unfold tyEqB; simp [h1, tInt]
        have e2 : tyEqB a tBool = false := by unfold tyEqB; simp [h2, tBool]
        rw [e1, e2]
        by_cases h4 : a.kind = 4
        · simp [h4]
        · by_cases h6 : a.kind = 6
          · simp [h6]
          · by_cases h5 : a.kind = 5
            · simp [h5]
            · by_cases h7 : a.kind = 7
              · simp [h7]
              · simp [h1, h2, h4, h5, h6, h7]
theorem rcomp_ok (a b : Ty) (w : World) : Ret PP fn_r05_Comparable #[tyV a, tyV b] w fun v w' => v = .bool (compB a b) ∧ G w w' := by
  have g := G.refl w
  refine ret_of_sc (m := 38) func_r05_Comparable rfl rfl [(0, True, _), (1, True, _)] (sub_cons rfl (sub_cons rfl (sub_nil _))) ?_
  refine sc_seq fun K1 hK1 => ?_
  refine sc_text [1, 1, 3] ?_
  refine sr_box rfl (ev_t rfl) rfl ?_
  intro b2 w2 N2
  have l2 := N2.ge g
  have g := g.trans (N2.g)
  have B2 := N2.blk
  refine sr_box rfl (ev_t rfl) rfl ?_
  intro b3 w3 N3
  have x3_2 := N3.ne B2
  have l3 := N3.ge g
  have g := g.trans (N3.g)
  replace B2 := B2.grow (N3.g)
  have B3 := N3.blk
  refine sr_pu rfl (fun _ => rd_assign ev_c) ?_
  refine sr_sub [(2, _, _), (3, _, _), (4, _, _)] (sub_cons rfl (sub_cons rfl (sub_cons rfl (sub_nil _)))) ?_
  refine sr_nil (hK1 _ _ ?_)
  refine sc_seq fun K2 hK2 => ?_
  refine sc_text [3, 1, 2] ?_
  refine sr_pu rfl (fun _ => rd_build [_, _] ze_api_Type rfl pl_api_Type (parts_cons ev_c (parts_nil)) rfl) ?_
  refine sr_alloc rfl ze_api_Type rfl ?_
  intro b5 w5 N5
  have x5_2 := N5.ne B2
  have x5_3 := N5.ne B3
  have l5 := N5.ge g
  have g := g.trans (N5.g)
  replace B2 := B2.grow (N5.g)
  replace B3 := B3.grow (N5.g)
  have B5 := N5.blk
  refine sr_store_all rfl sz_api_Type (ev_t rfl) (ev_t rfl) rfl rfl B5 rfl rfl ?_
  intro wS1 hgS1 hzS1
  clear B5
  intro B5
  replace B2 := B2.keep hgS1 (by intro h; injection h with h; omega)
  replace B3 := B3.keep hgS1 (by intro h; injection h with h; omega)
  have g := g_only g hgS1 (by intro k hk; injection hk with hk; omega)
  refine sr_sub [(2, _, _), (3, _, _), (4, _, _), (5, _, _)] (sub_cons rfl (sub_cons rfl (sub_cons rfl (sub_cons rfl (sub_nil _))))) ?_
  refine sr_nil (hK2 _ _ ?_)
  refine sc_seq fun K3 hK3 => ?_
  refine sc_seq fun K4 hK4 => ?_
  refine sc_text [0, 0, 3, 3, 0, 0, 3, 3] ?_
  refine sr_rd rfl (rd_loads agg_api_Type (ev_t rfl) rfl (fun _ => B2.row)) ?_
  refine sr_rd rfl (rd_loads agg_api_Type (ev_t rfl) rfl (fun _ => B5.row)) ?_
  refine sr_pu rfl (fun _ => rd_steq fl_api_Type (ev_t rfl) (ev_t rfl) rfl) ?_
  refine sr_pu rfl (fun _ => rd_move (ev_t rfl)) ?_
  refine sr_rdg rfl rfl rfl (rd_loads agg_api_Type (ev_t rfl) rfl (fun _ => B3.row)) ?_
  refine sr_rdg rfl rfl rfl (rd_loads agg_api_Type (ev_t rfl) rfl (fun _ => B5.row)) ?_
  refine sr_pug rfl rfl rfl (fun _ => rd_steq fl_api_Type (ev_u rfl id) (ev_u rfl id) rfl) ?_
  refine sr_pu rfl (fun _ => rd_pick_or (ev_t rfl) (ev_u rfl id)) ?_
  refine sr_sub [(2, _, _), (3, _, _), (4, _, _), (14, _, _)] (sub_cons rfl (sub_cons rfl (sub_cons rfl (sub_cons rfl (sub_nil _))))) ?_
  refine sr_nil (hK4 _ _ ?_)
  refine sc_cond (ev_t rfl) (fun h1 => ?_) (fun h1 => ?_)
  · have hq : (tyEqB a tNil || tyEqB b tNil) = true := h1
    refine sc_seq fun K5 hK5 => ?_
    refine sc_text [0, 1, 3, 0, 1, 3, 3] ?_
    refine sr_rd rfl (rd_loads agg_api_Type (ev_t rfl) rfl (fun _ => B2.row)) ?_
    refine sr_pure rfl (rc_call go_r05_Reference ev_f (args_cons (ev_t rfl) (args_nil)) rfl) (rref_ok _ _) (fun w16 g16 => ?_)
    have g := g.trans (g16)
    replace B2 := B2.grow (g16)
    replace B3 := B3.grow (g16)
    replace B5 := B5.grow (g16)
    refine sr_pu rfl (fun _ => rd_move (ev_t rfl)) ?_
    refine sr_rdg rfl rfl rfl (rd_loads agg_api_Type (ev_t rfl) rfl (fun _ => B3.row)) ?_
    refine sr_pureg rfl rfl rfl (fun _ => (rc_call go_r05_Reference ev_f (args_cons (ev_u rfl id) (args_nil)) rfl)) (fun hc => rref_ok _ _) (fun w19 g19 => ?_)
    have g := g.trans (g19)
    replace B2 := B2.grow (g19)
    replace B3 := B3.grow (g19)
    replace B5 := B5.grow (g19)
    refine sr_pu rfl (fun _ => rd_pick_or (ev_t rfl) (ev_u rfl id)) ?_
    refine sr_pu rfl (fun _ => rd_assign (ev_t rfl)) ?_
    refine sr_sub [(2, _, _), (3, _, _), (4, _, _)] (sub_cons rfl (sub_cons rfl (sub_cons rfl (sub_nil _)))) ?_
    refine sr_nil (hK5 _ _ ?_)
    refine sc_ret (t_ret1 rfl rfl ?_)
    refine ⟨congrArg Value.bool ?_, g⟩; unfold compB; rw [hq]; rfl
  · have hq : (tyEqB a tNil || tyEqB b tNil) = false := h1
    refine sc_skip (hK3 _ _ ?_)
    refine sc_sub [(2, _, _), (3, _, _), (4, _, _)] (sub_cons rfl (sub_cons rfl (sub_cons rfl (sub_nil _)))) ?_
    refine sc_seq fun K6 hK6 => ?_
    refine sc_text [0, 0, 3, 3, 0, 1, 3, 3, 3, 0, 3, 3, 3, 3, 0, 3, 3, 3] ?_
    refine sr_rd rfl (rd_loads agg_api_Type (ev_t rfl) rfl (fun _ => B2.row)) ?_
    refine sr_rd rfl (rd_loads agg_api_Type (ev_t rfl) rfl (fun _ => B3.row)) ?_
    refine sr_pu rfl (fun _ => rd_steq fl_api_Type (ev_t rfl) (ev_t rfl) rfl) ?_
    refine sr_pu rfl (fun _ => rd_move (ev_t rfl)) ?_
    refine sr_rdg rfl rfl rfl (rd_loads agg_api_Type (ev_t rfl) rfl (fun _ => B2.row)) ?_
    refine sr_pureg rfl rfl rfl (fun _ => (rc_call go_r05_Value ev_f (args_cons (ev_u rfl id) (args_nil)) rfl)) (fun hc => rvalue_ok _ _) (fun w26 g26 => ?_)
    have g := g.trans (g26)
    replace B2 := B2.grow (g26)
    replace B3 := B3.grow (g26)
    replace B5 := B5.grow (g26)
    refine sr_pu rfl (fun _ => rd_pick_and (ev_t rfl) (ev_u rfl id)) ?_
    refine sr_pu rfl (fun _ => rd_move (ev_t rfl)) ?_
    refine sr_pug rfl rfl rfl (fun _ => rd_field fo_api_Type_0 (ev_t rfl)) ?_
    refine sr_rdg rfl rfl rfl (rd_load one_int (ev_u rfl id) (fun _ => B2.at_ rfl)) ?_
    refine sr_pug rfl rfl rfl (fun _ => rd_ne (ev_u rfl id) ev_c) ?_
    refine sr_pu rfl (fun _ => rd_pick_and (ev_t rfl) (ev_u rfl id)) ?_
    refine sr_pu rfl (fun _ => rd_move (ev_t rfl)) ?_
    refine sr_pug rfl rfl rfl (fun _ => rd_field fo_api_Type_0 (ev_t rfl)) ?_
    refine sr_rdg rfl rfl rfl (rd_load one_int (ev_u rfl id) (fun _ => B2.at_ rfl)) ?_
    refine sr_pug rfl rfl rfl (fun _ => rd_ne (ev_u rfl id) ev_c) ?_
    refine sr_pu rfl (fun _ => rd_pick_and (ev_t rfl) (ev_u rfl id)) ?_
    refine sr_pu rfl (fun _ => rd_assign (ev_t rfl)) ?_
    refine sr_sub [(4, _, _)] (sub_cons rfl (sub_nil _)) ?_
    refine sr_nil (hK6 _ _ ?_)
    refine sc_ret (t_ret1 rfl rfl ?_)
    refine ⟨congrArg Value.bool ?_, g⟩; unfold compB; rw [hq, ← rcomp_eq]; rfl
end Go.Rk
