/- The types: what a node denotes. Conditions: what start-up laid. -/
import Derived.Test.YtbefeanapficgaaDoorTypC
import Derived.Test.YtbefeanapficgaaDoorRefB
namespace Go.Rk
open Go Go.RowKit
def typeNames : List (List UInt8) := [[105, 110, 116], [98, 111, 111, 108], [91, 93, 105, 110, 116], [99, 104, 97, 110], [102, 117, 110, 99], [109, 117, 116, 101, 120], [114, 119, 109, 117, 116, 101, 120], [103, 114, 111, 117, 112], [111, 110, 99, 101], [97, 116, 111, 109, 105, 99]]
def typeNameB (s : List UInt8) : Bool := anyS typeNames s
theorem typename_ok (s : List UInt8) (w : World) : Ret PP fn_r03_typeName #[Str s] w fun v w' => v = .bool (typeNameB s) ∧ G w w' := by
  have g := G.refl w
  refine ret_of_sc (m := 15) func_r03_typeName rfl rfl [(0, True, _)] (sub_cons rfl (sub_nil _)) ?_
  refine sc_seq fun K1 hK1 => ?_
  refine sc_text [3] ?_
  refine sr_pu rfl (fun _ => rd_assign ev_c) ?_
  refine sr_nil (hK1 _ _ ?_)
  refine sc_seq fun K2 hK2 => ?_
  refine sc_seq fun K3 hK3 => ?_
  refine sc_text [3] ?_
  refine sr_pu rfl (fun _ => rd_move (ev_t rfl)) ?_
  refine sr_sub [(2, _, _), (3, _, _)] (sub_cons rfl (sub_cons rfl (sub_nil _))) ?_
  refine sr_nil (hK3 _ _ ?_)
  refine sc_block ?_
  refine sc_seq fun K4 hK4 => ?_
  refine sc_seq fun K5 hK5 => ?_
  refine sc_text [3, 3] ?_
  refine sr_pu rfl (fun _ => rd_seq (ev_t rfl) ev_c) ?_
  refine sr_pu rfl (fun _ => rd_assign (ev_t rfl)) ?_
  refine sr_sub [(2, _, _), (3, _, _), (4, _, _)] (sub_cons rfl (sub_cons rfl (sub_cons rfl (sub_nil _)))) ?_
  refine sr_nil (hK5 _ _ ?_)
  refine' sc_or [(2, _, _)] (sub_cons rfl (sub_cons rfl (sub_nil _))) rfl (fun hb1 => ?y1) (hK4 _ _ ?n1)
  case y1 =>
   refine sc_seq fun K6 hK6 => ?_
   refine sc_text [3, 3] ?_
   refine sr_pu rfl (fun _ => rd_seq (ev_t rfl) ev_c) ?_
   refine sr_pu rfl (fun _ => rd_assign (ev_t rfl)) ?_
   refine sr_sub [(2, _, _), (3, _, _), (4, _, _)] (sub_cons rfl (sub_cons rfl (sub_cons rfl (sub_nil _)))) ?_
   refine sr_nil (hK6 _ _ ?_)
   refine' sc_or [(2, _, _)] (sub_cons rfl (sub_cons rfl (sub_nil _))) rfl (fun hb2 => ?y2) (fun a ha => ⟨ha, rfl⟩)
   case y2 =>
    refine sc_seq fun K7 hK7 => ?_
    refine sc_text [3, 3] ?_
    refine sr_pu rfl (fun _ => rd_seq (ev_t rfl) ev_c) ?_
    refine sr_pu rfl (fun _ => rd_assign (ev_t rfl)) ?_
    refine sr_sub [(2, _, _), (3, _, _), (4, _, _)] (sub_cons rfl (sub_cons rfl (sub_cons rfl (sub_nil _)))) ?_
    refine sr_nil (hK7 _ _ ?_)
    refine' sc_or [(2, _, _)] (sub_cons rfl (sub_cons rfl (sub_nil _))) rfl (fun hb3 => ?y3) (fun a ha => ⟨ha, rfl⟩)
    case y3 =>
     refine sc_seq fun K8 hK8 => ?_
     refine sc_text [3, 3] ?_
     refine sr_pu rfl (fun _ => rd_seq (ev_t rfl) ev_c) ?_
     refine sr_pu rfl (fun _ => rd_assign (ev_t rfl)) ?_
     refine sr_sub [(2, _, _), (3, _, _), (4, _, _)] (sub_cons rfl (sub_cons rfl (sub_cons rfl (sub_nil _)))) ?_
     refine sr_nil (hK8 _ _ ?_)
     refine' sc_or [(2, _, _)] (sub_cons rfl (sub_cons rfl (sub_nil _))) rfl (fun hb4 => ?y4) (fun a ha => ⟨ha, rfl⟩)
     case y4 =>
      refine sc_seq fun K9 hK9 => ?_
      refine sc_text [3, 3] ?_
      refine sr_pu rfl (fun _ => rd_seq (ev_t rfl) ev_c) ?_
      refine sr_pu rfl (fun _ => rd_assign (ev_t rfl)) ?_
      refine sr_sub [(2, _, _), (3, _, _), (4, _, _)] (sub_cons rfl (sub_cons rfl (sub_cons rfl (sub_nil _)))) ?_
      refine sr_nil (hK9 _ _ ?_)
      refine' sc_or [(2, _, _)] (sub_cons rfl (sub_cons rfl (sub_nil _))) rfl (fun hb5 => ?y5) (fun a ha => ⟨ha, rfl⟩)
      case y5 =>
       refine sc_seq fun K10 hK10 => ?_
       refine sc_text [3, 3] ?_
       refine sr_pu rfl (fun _ => rd_seq (ev_t rfl) ev_c) ?_
       refine sr_pu rfl (fun _ => rd_assign (ev_t rfl)) ?_
       refine sr_sub [(2, _, _), (3, _, _), (4, _, _)] (sub_cons rfl (sub_cons rfl (sub_cons rfl (sub_nil _)))) ?_
       refine sr_nil (hK10 _ _ ?_)
       refine' sc_or [(2, _, _)] (sub_cons rfl (sub_cons rfl (sub_nil _))) rfl (fun hb6 => ?y6) (fun a ha => ⟨ha, rfl⟩)
       case y6 =>
        refine sc_seq fun K11 hK11 => ?_
        refine sc_text [3, 3] ?_
        refine sr_pu rfl (fun _ => rd_seq (ev_t rfl) ev_c) ?_
        refine sr_pu rfl (fun _ => rd_assign (ev_t rfl)) ?_
        refine sr_sub [(2, _, _), (3, _, _), (4, _, _)] (sub_cons rfl (sub_cons rfl (sub_cons rfl (sub_nil _)))) ?_
        refine sr_nil (hK11 _ _ ?_)
        refine' sc_or [(2, _, _)] (sub_cons rfl (sub_cons rfl (sub_nil _))) rfl (fun hb7 => ?y7) (fun a ha => ⟨ha, rfl⟩)
        case y7 =>
         refine sc_seq fun K12 hK12 => ?_
         refine sc_text [3, 3] ?_
         refine sr_pu rfl (fun _ => rd_seq (ev_t rfl) ev_c) ?_
         refine sr_pu rfl (fun _ => rd_assign (ev_t rfl)) ?_
         refine sr_sub [(2, _, _), (3, _, _), (4, _, _)] (sub_cons rfl (sub_cons rfl (sub_cons rfl (sub_nil _)))) ?_
         refine sr_nil (hK12 _ _ ?_)
         refine' sc_or [(2, _, _)] (sub_cons rfl (sub_cons rfl (sub_nil _))) rfl (fun hb8 => ?y8) (fun a ha => ⟨ha, rfl⟩)
         case y8 =>
          refine sc_seq fun K13 hK13 => ?_
          refine sc_text [3, 3] ?_
          refine sr_pu rfl (fun _ => rd_seq (ev_t rfl) ev_c) ?_
          refine sr_pu rfl (fun _ => rd_assign (ev_t rfl)) ?_
          refine sr_sub [(2, _, _), (3, _, _), (4, _, _)] (sub_cons rfl (sub_cons rfl (sub_cons rfl (sub_nil _)))) ?_
          refine sr_nil (hK13 _ _ ?_)
          refine' sc_or [(2, _, _)] (sub_cons rfl (sub_cons rfl (sub_nil _))) rfl (fun hb9 => ?y9) (fun a ha => ⟨ha, rfl⟩)
          case y9 =>
           refine sc_text [3, 3] ?_
           refine sr_pu rfl (fun _ => rd_seq (ev_t rfl) ev_c) ?_
           refine sr_pu rfl (fun _ => rd_assign (ev_t rfl)) ?_
           refine sr_sub [(4, _, _), (2, _, _)] (sub_cons rfl (sub_cons rfl (sub_nil _))) ?_
           exact sr_nil (fun a ha => ⟨ha, rfl⟩)
  case n1 =>
   refine sc_cond (ev_t rfl) (fun h10 => ?_) (fun h10 => ?_)
   · (try simp only [bsimp] at h10)
     refine sc_seq fun K14 hK14 => ?_
     refine sc_text [3] ?_
     refine sr_pu rfl (fun _ => rd_assign ev_c) ?_
     refine sr_sub [(2, _, _)] (sub_cons rfl (sub_nil _)) ?_
     refine sr_nil (hK14 _ _ ?_)
     refine sc_ret (t_ret1 rfl rfl ?_)
     refine ⟨congrArg Value.bool ?_, g⟩
     simp only [typeNameB, anyS, typeNames]; exact (h10).symm
   · (try simp only [bsimp] at h10)
     refine sc_skip (hK2 _ _ ?_)
     refine sc_sub [(2, _, _)] (sub_cons rfl (sub_nil _)) ?_
     refine sc_seq fun K15 hK15 => ?_
     refine sc_text [3] ?_
     refine sr_pu rfl (fun _ => rd_assign ev_c) ?_
     refine sr_nil (hK15 _ _ ?_)
     refine sc_ret (t_ret1 rfl rfl ?_)
     refine ⟨congrArg Value.bool ?_, g⟩
     simp only [typeNameB, anyS, typeNames]; exact (h10).symm
def leafB (t : Nd) : Bool := decide ((t.kids.length : Int) = 0)
def isTypeB (t : Nd) : Bool := bif decide (t.kind = 8) then nameB t.text && leafB t else bif decide (t.kind = 7) then typeNameB t.text && leafB t else false
theorem istype_ok (t : Nd) (p : Option Addr) (c : Nat) (w : World) : Ret PP fn_r03_IsType #[ndV t (.slice p t.kids.length c)] w fun v w' => v = .bool (isTypeB t) ∧ G w w' := by
  have g := G.refl w
  refine ret_of_sc (m := 27) func_r03_IsType rfl rfl [(0, True, _)] (sub_cons rfl (sub_nil _)) ?_
  refine sc_seq fun K1 hK1 => ?_
  refine sc_text [1, 3] ?_
  refine sr_box rfl (ev_t rfl) rfl ?_
  intro b1 w1 N1
  have l1 := N1.ge g
  have g := g.trans (N1.g)
  have B1 := N1.blk
  refine sr_pu rfl (fun _ => rd_assign ev_c) ?_
  refine sr_sub [(1, _, _), (2, _, _)] (sub_cons rfl (sub_cons rfl (sub_nil _))) ?_
  refine sr_nil (hK1 _ _ ?_)
  refine sc_seq fun K2 hK2 => ?_
  refine sc_seq fun K3 hK3 => ?_
  refine sc_text [3, 0] ?_
  refine sr_pu rfl (fun _ => rd_field fo_api_Node_0 (ev_t rfl)) ?_
  refine sr_rd rfl (rd_load one_int (ev_t rfl) (fun _ => B1.at_ rfl)) ?_
  refine sr_sub [(1, _, _), (2, _, _), (4, _, _)] (sub_cons rfl (sub_cons rfl (sub_cons rfl (sub_nil _)))) ?_
  refine sr_nil (hK3 _ _ ?_)
  refine sc_block ?_
  refine sc_seq fun K4 hK4 => ?_
  refine sc_text [3, 3] ?_
  refine sr_pu rfl (fun _ => rd_eq (ev_t rfl) ev_c) ?_
  refine sr_pu rfl (fun _ => rd_assign (ev_t rfl)) ?_
  refine sr_sub [(1, _, _), (2, _, _), (4, _, _), (5, _, _)] (sub_cons rfl (sub_cons rfl (sub_cons rfl (sub_cons rfl (sub_nil _))))) ?_
  refine sr_nil (hK4 _ _ ?_)
  refine sc_cond (ev_t rfl) (fun h1 => ?_) (fun h1 => ?_)
  · (try simp only [bsimp] at h1)
    refine sc_seq fun K5 hK5 => ?_
    refine sc_text [3, 0, 1, 3, 3, 0, 3, 3, 3, 3] ?_
    refine sr_pu rfl (fun _ => rd_field fo_api_Node_1 (ev_t rfl)) ?_
    refine sr_rd rfl (rd_load one_string (ev_t rfl) (fun _ => B1.at_ rfl)) ?_
    refine sr_pure rfl (rc_call go_r02_Name ev_f (args_cons (ev_t rfl) (args_nil)) rfl) (rname_ok _ _) (fun w9 g9 => ?_)
    have g := g.trans (g9)
    replace B1 := B1.grow (g9)
    refine sr_pu rfl (fun _ => rd_move (ev_t rfl)) ?_
    refine sr_pug rfl rfl rfl (fun _ => rd_field fo_api_Node_4 (ev_t rfl)) ?_
    refine sr_rdg rfl rfl rfl (rd_load one_sl_api_Node (ev_u rfl id) (fun _ => B1.at_ rfl)) ?_
    refine sr_pug rfl rfl rfl (fun _ => rd_len el_sl_api_Node (ev_u rfl id)) ?_
    refine sr_pug rfl rfl rfl (fun _ => rd_eq (ev_u rfl id) ev_c) ?_
    refine sr_pu rfl (fun _ => rd_pick_and (ev_t rfl) (ev_u rfl id)) ?_
    refine sr_pu rfl (fun _ => rd_assign (ev_t rfl)) ?_
    refine sr_sub [(2, _, _)] (sub_cons rfl (sub_nil _)) ?_
    refine sr_nil (hK5 _ _ ?_)
    refine sc_ret (t_ret1 rfl rfl ?_)
    refine ⟨congrArg Value.bool ?_, g⟩
    unfold isTypeB; simp only [h1, cond_true, cond_false] <;> rfl
  · (try simp only [bsimp] at h1)
    refine sc_seq fun K6 hK6 => ?_
    refine sc_text [3, 3] ?_
    refine sr_pu rfl (fun _ => rd_eq (ev_t rfl) ev_c) ?_
    refine sr_pu rfl (fun _ => rd_assign (ev_t rfl)) ?_
    refine sr_sub [(1, _, _), (2, _, _), (16, _, _)] (sub_cons rfl (sub_cons rfl (sub_cons rfl (sub_nil _)))) ?_
    refine sr_nil (hK6 _ _ ?_)
    refine sc_cond (ev_t rfl) (fun h2 => ?_) (fun h2 => ?_)
    · (try simp only [bsimp] at h2)
      refine sc_seq fun K7 hK7 => ?_
      refine sc_text [3, 0, 1, 3, 3, 0, 3, 3, 3, 3] ?_
      refine sr_pu rfl (fun _ => rd_field fo_api_Node_1 (ev_t rfl)) ?_
      refine sr_rd rfl (rd_load one_string (ev_t rfl) (fun _ => B1.at_ rfl)) ?_
      refine sr_pure rfl (rc_call go_r03_typeName ev_f (args_cons (ev_t rfl) (args_nil)) rfl) (typename_ok _ _) (fun w20 g20 => ?_)
      have g := g.trans (g20)
      replace B1 := B1.grow (g20)
      refine sr_pu rfl (fun _ => rd_move (ev_t rfl)) ?_
      refine sr_pug rfl rfl rfl (fun _ => rd_field fo_api_Node_4 (ev_t rfl)) ?_
      refine sr_rdg rfl rfl rfl (rd_load one_sl_api_Node (ev_u rfl id) (fun _ => B1.at_ rfl)) ?_
      refine sr_pug rfl rfl rfl (fun _ => rd_len el_sl_api_Node (ev_u rfl id)) ?_
      refine sr_pug rfl rfl rfl (fun _ => rd_eq (ev_u rfl id) ev_c) ?_
      refine sr_pu rfl (fun _ => rd_pick_and (ev_t rfl) (ev_u rfl id)) ?_
      refine sr_pu rfl (fun _ => rd_assign (ev_t rfl)) ?_
      refine sr_sub [(2, _, _)] (sub_cons rfl (sub_nil _)) ?_
      refine sr_nil (hK7 _ _ ?_)
      refine sc_ret (t_ret1 rfl rfl ?_)
      refine ⟨congrArg Value.bool ?_, g⟩
      unfold isTypeB; simp only [h1, h2, cond_true, cond_false] <;> rfl
    · (try simp only [bsimp] at h2)
      refine sc_skip (hK2 _ _ ?_)
      refine sc_sub [(2, _, _)] (sub_cons rfl (sub_nil _)) ?_
      refine sc_seq fun K8 hK8 => ?_
      refine sc_text [3] ?_
      refine sr_pu rfl (fun _ => rd_assign ev_c) ?_
      refine sr_nil (hK8 _ _ ?_)
      refine sc_ret (t_ret1 rfl rfl ?_)
      refine ⟨congrArg Value.bool ?_, g⟩
      unfold isTypeB; simp only [h1, h2, cond_true, cond_false] <;> rfl
def typTab : List (List UInt8 × Int) := [([105, 110, 116], 1), ([98, 111, 111, 108], 2), ([91, 93, 105, 110, 116], 5), ([99, 104, 97, 110], 6), ([102, 117, 110, 99], 7), ([109, 117, 116, 101, 120], 8), ([114, 119, 109, 117, 116, 101, 120], 9), ([103, 114, 111, 117, 112], 10), ([111, 110, 99, 101], 11), ([97, 116, 111, 109, 105, 99], 12)]
def typKind (s : List UInt8) : Int := (typTab.lookup s).getD 0
/-- What a node denotes. -/
def ofF (t : Nd) : Ty × Bool :=
  bif !leafB t then (ty0, false)
  else bif decide (t.kind = 9) then (ty0, decide (t.text = []))
  else bif decide (t.kind = 8) then (bif nameB t.text then (⟨4, t.text⟩, true) else (ty0, false))
  else bif decide (t.kind = 7) then (bif typeNameB t.text then (⟨typKind t.text, []⟩, true) else (ty0, false))
  else (ty0, false)
theorem typ_find0 : ((List.range 13).all fun i => anyS [[], [110, 105, 108], [99, 104, 97, 110, 32, 105, 110, 116], [102, 117, 110, 99, 40, 41]] (typTexts.getD i []) || (typeNameB (typTexts.getD i []) && decide (typKind (typTexts.getD i []) = (i : Int)))) = true := by kernel_rfl
theorem typ_find {i : Nat} (hi : i < 13) {s : List UInt8} (hs : anyS [[], [110, 105, 108], [99, 104, 97, 110, 32, 105, 110, 116], [102, 117, 110, 99, 40, 41]] s = false) (h : typTexts.getD i [] = s) : typeNameB s = true ∧ typKind s = i := by
  have := List.all_eq_true.1 typ_find0 i (List.mem_range.2 hi)
  rw [h, hs] at this
  simpa using this
theorem typ_none0 : (typeNames.all fun s => anyS [[99, 104, 97, 110], [102, 117, 110, 99]] s || (List.range 13).any fun i => decide (typTexts.getD i [] = s)) = true := by kernel_rfl
theorem typ_none {s : List UInt8} (h1 : decide (s = [99, 104, 97, 110]) = false) (h2 : decide (s = [102, 117, 110, 99]) = false) (h : ∀ i, i < 13 → typTexts.getD i [] ≠ s) : typeNameB s = false := by
  cases hn : typeNameB s
  · rfl
  · have := List.all_eq_true.1 typ_none0 s ((anyS_iff _ _).1 hn)
    simp only [anyS, h1, h2, Bool.or_false, Bool.false_or, List.any_eq_true, decide_eq_true_eq, List.mem_range] at this
    obtain ⟨i, hi, he⟩ := this
    exact absurd he (h i hi)
theorem typ_bad {s : List UInt8} (h : anyS [[], [110, 105, 108], [99, 104, 97, 110, 32, 105, 110, 116], [102, 117, 110, 99, 40, 41]] s = true) : typeNameB s = false := by
  have := (anyS_iff _ _).1 h
  simp only [List.mem_cons, List.not_mem_nil, or_false] at this
  rcases this with rfl | rfl | rfl | rfl <;> rfl
theorem tof_ok (t : Nd) (p : Option Addr) (c : Nat) (w : World) (hL : Laid w) (hb3 : 4 ≤ w.heap.size) (hTx : LaidT w) (hlen : t.kids.length ≤ 1000000) : Ret PP fn_types_Of #[ndV t (.slice p t.kids.length c)] w fun v w' => v = .tuple #[tyV (ofF t).1, .bool (ofF t).2] ∧ G w w' := by
  have g := G.refl w
  refine ret_of_sc (m := 56) func_types_Of rfl rfl [(0, True, _)] (sub_cons rfl (sub_nil _)) ?_
  refine sc_seq fun K1 hK1 => ?_
  refine sc_text [1, 1, 3] ?_
  refine sr_box rfl (ev_t rfl) rfl ?_
  intro b1 w1 N1
  have l1 := N1.ge g
  have g := g.trans (N1.g)
  have B1 := N1.blk
  refine sr_alloc rfl ze_api_Type rfl ?_
  intro b2 w2 N2
  have x2_1 := N2.ne B1
  have l2 := N2.ge g
  have g := g.trans (N2.g)
  replace B1 := B1.grow (N2.g)
  have B2 := N2.blk
  refine sr_pu rfl (fun _ => rd_assign ev_c) ?_
  refine sr_sub [(1, _, _), (2, _, _), (3, _, _)] (sub_cons rfl (sub_cons rfl (sub_cons rfl (sub_nil _)))) ?_
  refine sr_nil (hK1 _ _ ?_)
  refine sc_seq fun K2 hK2 => ?_
  refine sc_seq fun K3 hK3 => ?_
  refine sc_text [3, 0, 3, 3] ?_
  refine sr_pu rfl (fun _ => rd_field fo_api_Node_4 (ev_t rfl)) ?_
  refine sr_rd rfl (rd_load one_sl_api_Node (ev_t rfl) (fun _ => B1.at_ rfl)) ?_
  refine sr_pu rfl (fun _ => rd_len el_sl_api_Node (ev_t rfl)) ?_
  refine sr_pu rfl (fun _ => rd_gt (ev_t rfl) ev_c) ?_
  refine sr_sub [(1, _, _), (2, _, _), (3, _, _), (9, _, _)] (sub_cons rfl (sub_cons rfl (sub_cons rfl (sub_cons rfl (sub_nil _))))) ?_
  refine sr_nil (hK3 _ _ ?_)
  refine sc_cond (ev_t rfl) (fun h1 => ?_) (fun h1 => ?_)
  · have hq : leafB t = false := by
      have : 0 < t.kids.length := by simp only [decide_eq_true_eq] at h1; omega
      unfold leafB; rw [decide_eq_false_iff_not]; omega
    refine sc_seq fun K4 hK4 => ?_
    refine sc_text [3, 2, 3] ?_
    refine sr_pu rfl (fun _ => rd_build [_, _] ze_api_Type rfl pl_api_Type (parts_nil) rfl) ?_
    refine sr_store_all rfl sz_api_Type (ev_t rfl) (ev_t rfl) rfl rfl B2 rfl rfl ?_
    intro wS1 hgS1 hzS1
    clear B2
    intro B2
    replace B1 := B1.keep hgS1 (by intro h; injection h with h; omega)
    have g := g_only g hgS1 (by intro k hk; injection hk with hk; omega)
    refine sr_pu rfl (fun _ => rd_assign ev_c) ?_
    refine sr_sub [(1, _, _), (2, _, _), (3, _, _)] (sub_cons rfl (sub_cons rfl (sub_cons rfl (sub_nil _)))) ?_
    refine sr_nil (hK4 _ _ ?_)
    refine sc_ret (t_retv (rs := [.cell 2 23, .tmp 3]) (vs := [_, _]) rfl rfl (evr_c rfl agg_api_Type rfl (by first | exact B1.row | exact B2.row) (evr_t rfl (evr_nil))) rfl ?_)
    refine ⟨?_, g⟩
    have h0 : Str [] = .string ⟨#[]⟩ := rfl
    unfold ofF; simp only [hq, Bool.not_true, Bool.not_false, h1, cond_true, cond_false]
    first
    | rfl
    | (rw [of_decide_eq_true h6]; rfl)
    | (rw [of_decide_eq_true h7]; rfl)
    | (rw [typ_bad h11]; rfl)
    | (obtain ⟨e1, e2⟩ := typ_find h12 h11 (of_decide_eq_true h13); rw [e1, e2]; rfl)
    | (rw [typ_none h6 h7 (fun j hj => hI1.2 j (by omega))]; rfl)
  · have hq : leafB t = true := by
      unfold leafB; rw [decide_eq_true_eq]; simp only [decide_eq_false_iff_not] at h1; omega
    refine sc_skip (hK2 _ _ ?_)
    refine sc_sub [(1, _, _), (2, _, _), (3, _, _)] (sub_cons rfl (sub_cons rfl (sub_cons rfl (sub_nil _)))) ?_
    refine sc_seq fun K5 hK5 => ?_
    refine sc_seq fun K6 hK6 => ?_
    refine sc_text [3, 0] ?_
    refine sr_pu rfl (fun _ => rd_field fo_api_Node_0 (ev_t rfl)) ?_
    refine sr_rd rfl (rd_load one_int (ev_t rfl) (fun _ => B1.at_ rfl)) ?_
    refine sr_sub [(1, _, _), (2, _, _), (3, _, _), (12, _, _)] (sub_cons rfl (sub_cons rfl (sub_cons rfl (sub_cons rfl (sub_nil _))))) ?_
    refine sr_nil (hK6 _ _ ?_)
    refine sc_block ?_
    refine sc_seq fun K7 hK7 => ?_
    refine sc_text [3, 3] ?_
    refine sr_pu rfl (fun _ => rd_eq (ev_t rfl) ev_c) ?_
    refine sr_pu rfl (fun _ => rd_assign (ev_t rfl)) ?_
    refine sr_sub [(1, _, _), (2, _, _), (3, _, _), (12, _, _), (13, _, _)] (sub_cons rfl (sub_cons rfl (sub_cons rfl (sub_cons rfl (sub_cons rfl (sub_nil _)))))) ?_
    refine sr_nil (hK7 _ _ ?_)
    refine sc_cond (ev_t rfl) (fun h2 => ?_) (fun h2 => ?_)
    · (try simp only [bsimp] at h2)
      refine sc_seq fun K8 hK8 => ?_
      refine sc_drawT (some b2) [3, 3, 0, 3, 1, 3] [0, 0, 2, 6, 1, 31] mix (by kernel_rfl) [0, 1, 2, 3, 4, 5] rfl ?_
      have g := g.trans (G.drew _)
      replace B1 := B1.grow (G.drew _)
      replace B2 := B2.grow (G.drew _)
      refine st_pu (L' := [1, 2, 3, 4, 5]) 0 rfl rfl rfl (fun _ => rd_build [_, _] ze_api_Type rfl pl_api_Type (parts_nil) rfl) ?_
      refine st_pu (L' := [2, 3, 4, 5]) 1 rfl rfl rfl (fun _ => rd_field fo_api_Node_1 (ev_t rfl)) ?_
      refine st_rd (L' := [3, 4, 5]) 2 rfl rfl rfl (fun w1 hx => rd_load one_string (ev_t rfl) (fun _ => (B1.keep hx (by intro h; first | (injection h with h; omega) | cases h)).at_ rfl)) ?_
      refine st_pu (L' := [4, 5]) 3 rfl rfl rfl (fun _ => rd_seq (ev_t rfl) ev_c) ?_
      refine st_eff1 4 rfl rfl ?_
      refine ste_of_sr (L' := [5]) [3, 3, 0, 3, 2, 3] rfl rfl rfl ?_
      refine sr_store_all rfl sz_api_Type (ev_t rfl) (ev_t rfl) rfl rfl B2 rfl rfl ?_
      intro wS2 hgS2 hzS2
      clear B2
      intro B2
      replace B1 := B1.keep hgS2 (by intro h; injection h with h; omega)
      have g := g_only g hgS2 (by intro k hk; injection hk with hk; omega)
      refine sr_nilT (hgS2) ?_
      refine st_pu (L' := []) 5 rfl rfl rfl (fun _ => rd_assign (ev_t rfl)) ?_
      refine st_sub [(2, _, _), (3, _, _)] (sub_cons rfl (sub_cons rfl (sub_nil _))) ?_
      refine st_nil (hK8 _ _ ?_)
      refine sc_ret (t_retv (rs := [.cell 2 23, .tmp 3]) (vs := [_, _]) rfl rfl (evr_c rfl agg_api_Type rfl (by first | exact B1.row | exact B2.row) (evr_t rfl (evr_nil))) rfl ?_)
      refine ⟨?_, g⟩
      have h0 : Str [] = .string ⟨#[]⟩ := rfl
      unfold ofF; simp only [hq, Bool.not_true, Bool.not_false, h1, h2, cond_true, cond_false]
      first
      | rfl
      | (rw [of_decide_eq_true h6]; rfl)
      | (rw [of_decide_eq_true h7]; rfl)
      | (rw [typ_bad h11]; rfl)
      | (obtain ⟨e1, e2⟩ := typ_find h12 h11 (of_decide_eq_true h13); rw [e1, e2]; rfl)
      | (rw [typ_none h6 h7 (fun j hj => hI1.2 j (by omega))]; rfl)
    · (try simp only [bsimp] at h2)
      refine sc_seq fun K9 hK9 => ?_
      refine sc_text [3, 3] ?_
      refine sr_pu rfl (fun _ => rd_eq (ev_t rfl) ev_c) ?_
      refine sr_pu rfl (fun _ => rd_assign (ev_t rfl)) ?_
      refine sr_sub [(1, _, _), (2, _, _), (3, _, _), (12, _, _), (19, _, _)] (sub_cons rfl (sub_cons rfl (sub_cons rfl (sub_cons rfl (sub_cons rfl (sub_nil _)))))) ?_
      refine sr_nil (hK9 _ _ ?_)
      refine sc_cond (ev_t rfl) (fun h3 => ?_) (fun h3 => ?_)
      · (try simp only [bsimp] at h3)
        refine sc_seq fun K10 hK10 => ?_
        refine sc_text [3, 0, 1] ?_
        refine sr_pu rfl (fun _ => rd_field fo_api_Node_1 (ev_t rfl)) ?_
        refine sr_rd rfl (rd_load one_string (ev_t rfl) (fun _ => B1.at_ rfl)) ?_
        refine sr_pure rfl (rc_call go_types_name ev_f (args_cons (ev_t rfl) (args_nil)) rfl) (tname_ok _ _ (hL.grow g) (by have := g.size; omega)) (fun w23 g23 => ?_)
        have g := g.trans (g23)
        replace B1 := B1.grow (g23)
        replace B2 := B2.grow (g23)
        refine sr_sub [(1, _, _), (2, _, _), (3, _, _), (23, _, _)] (sub_cons rfl (sub_cons rfl (sub_cons rfl (sub_cons rfl (sub_nil _))))) ?_
        refine sr_nil (hK10 _ _ ?_)
        refine sc_cond (ev_t rfl) (fun h4 => ?_) (fun h4 => ?_)
        · (try simp only [bsimp] at h4)
          refine sc_seq fun K11 hK11 => ?_
          refine sc_text [3, 0, 3, 2, 3] ?_
          refine sr_pu rfl (fun _ => rd_field fo_api_Node_1 (ev_t rfl)) ?_
          refine sr_rd rfl (rd_load one_string (ev_t rfl) (fun _ => B1.at_ rfl)) ?_
          refine sr_pu rfl (fun _ => rd_build [_, _] ze_api_Type rfl pl_api_Type (parts_cons ev_c (parts_cons (ev_t rfl) (parts_nil))) rfl) ?_
          refine sr_store_all rfl sz_api_Type (ev_t rfl) (ev_t rfl) rfl rfl B2 rfl rfl ?_
          intro wS3 hgS3 hzS3
          clear B2
          intro B2
          replace B1 := B1.keep hgS3 (by intro h; injection h with h; omega)
          have g := g_only g hgS3 (by intro k hk; injection hk with hk; omega)
          refine sr_pu rfl (fun _ => rd_assign ev_c) ?_
          refine sr_sub [(2, _, _), (3, _, _)] (sub_cons rfl (sub_cons rfl (sub_nil _))) ?_
          refine sr_nil (hK11 _ _ ?_)
          refine sc_ret (t_retv (rs := [.cell 2 23, .tmp 3]) (vs := [_, _]) rfl rfl (evr_c rfl agg_api_Type rfl (by first | exact B1.row | exact B2.row) (evr_t rfl (evr_nil))) rfl ?_)
          refine ⟨?_, g⟩
          have h0 : Str [] = .string ⟨#[]⟩ := rfl
          unfold ofF; simp only [hq, Bool.not_true, Bool.not_false, h1, h2, h3, h4, cond_true, cond_false]
          first
          | rfl
          | (rw [of_decide_eq_true h6]; rfl)
          | (rw [of_decide_eq_true h7]; rfl)
          | (rw [typ_bad h11]; rfl)
          | (obtain ⟨e1, e2⟩ := typ_find h12 h11 (of_decide_eq_true h13); rw [e1, e2]; rfl)
          | (rw [typ_none h6 h7 (fun j hj => hI1.2 j (by omega))]; rfl)
        · (try simp only [bsimp] at h4)
          refine sc_skip (hK5 _ _ ?_)
          refine sc_sub [(2, _, _), (3, _, _)] (sub_cons rfl (sub_cons rfl (sub_nil _))) ?_
          refine sc_seq fun K12 hK12 => ?_
          refine sc_text [3, 2, 3] ?_
          refine sr_pu rfl (fun _ => rd_build [_, _] ze_api_Type rfl pl_api_Type (parts_nil) rfl) ?_
          refine sr_store_all rfl sz_api_Type (ev_t rfl) (ev_t rfl) rfl rfl B2 rfl rfl ?_
          intro wS4 hgS4 hzS4
          clear B2
          intro B2
          replace B1 := B1.keep hgS4 (by intro h; injection h with h; omega)
          have g := g_only g hgS4 (by intro k hk; injection hk with hk; omega)
          refine sr_pu rfl (fun _ => rd_assign ev_c) ?_
          refine sr_nil (hK12 _ _ ?_)
          refine sc_ret (t_retv (rs := [.cell 2 23, .tmp 3]) (vs := [_, _]) rfl rfl (evr_c rfl agg_api_Type rfl (by first | exact B1.row | exact B2.row) (evr_t rfl (evr_nil))) rfl ?_)
          refine ⟨?_, g⟩
          have h0 : Str [] = .string ⟨#[]⟩ := rfl
          unfold ofF; simp only [hq, Bool.not_true, Bool.not_false, h1, h2, h3, h4, cond_true, cond_false]
          first
          | rfl
          | (rw [of_decide_eq_true h6]; rfl)
          | (rw [of_decide_eq_true h7]; rfl)
          | (rw [typ_bad h11]; rfl)
          | (obtain ⟨e1, e2⟩ := typ_find h12 h11 (of_decide_eq_true h13); rw [e1, e2]; rfl)
          | (rw [typ_none h6 h7 (fun j hj => hI1.2 j (by omega))]; rfl)
      · (try simp only [bsimp] at h3)
        refine sc_seq fun K13 hK13 => ?_
        refine sc_text [3, 3] ?_
        refine sr_pu rfl (fun _ => rd_eq (ev_t rfl) ev_c) ?_
        refine sr_pu rfl (fun _ => rd_assign (ev_t rfl)) ?_
        refine sr_sub [(1, _, _), (2, _, _), (3, _, _), (27, _, _)] (sub_cons rfl (sub_cons rfl (sub_cons rfl (sub_cons rfl (sub_nil _))))) ?_
        refine sr_nil (hK13 _ _ ?_)
        refine sc_cond (ev_t rfl) (fun h5 => ?_) (fun h5 => ?_)
        · (try simp only [bsimp] at h5)
          refine sc_seq fun K14 hK14 => ?_
          refine sc_seq fun K15 hK15 => ?_
          refine sc_text [3, 0] ?_
          refine sr_pu rfl (fun _ => rd_field fo_api_Node_1 (ev_t rfl)) ?_
          refine sr_rd rfl (rd_load one_string (ev_t rfl) (fun _ => B1.at_ rfl)) ?_
          refine sr_sub [(1, _, _), (2, _, _), (3, _, _), (30, _, _)] (sub_cons rfl (sub_cons rfl (sub_cons rfl (sub_cons rfl (sub_nil _))))) ?_
          refine sr_nil (hK15 _ _ ?_)
          refine sc_block ?_
          refine sc_seq fun K16 hK16 => ?_
          refine sc_text [3, 3] ?_
          refine sr_pu rfl (fun _ => rd_seq (ev_t rfl) ev_c) ?_
          refine sr_pu rfl (fun _ => rd_assign (ev_t rfl)) ?_
          refine sr_sub [(1, _, _), (2, _, _), (3, _, _), (30, _, _), (31, _, _)] (sub_cons rfl (sub_cons rfl (sub_cons rfl (sub_cons rfl (sub_cons rfl (sub_nil _)))))) ?_
          refine sr_nil (hK16 _ _ ?_)
          refine sc_cond (ev_t rfl) (fun h6 => ?_) (fun h6 => ?_)
          · (try simp only [bsimp] at h6)
            refine sc_seq fun K17 hK17 => ?_
            refine sc_text [3, 2, 3] ?_
            refine sr_pu rfl (fun _ => rd_build [_, _] ze_api_Type rfl pl_api_Type (parts_cons ev_c (parts_nil)) rfl) ?_
            refine sr_store_all rfl sz_api_Type (ev_t rfl) (ev_t rfl) rfl rfl B2 rfl rfl ?_
            intro wS5 hgS5 hzS5
            clear B2
            intro B2
            replace B1 := B1.keep hgS5 (by intro h; injection h with h; omega)
            have g := g_only g hgS5 (by intro k hk; injection hk with hk; omega)
            refine sr_pu rfl (fun _ => rd_assign ev_c) ?_
            refine sr_sub [(1, _, _), (2, _, _), (3, _, _)] (sub_cons rfl (sub_cons rfl (sub_cons rfl (sub_nil _)))) ?_
            refine sr_nil (hK17 _ _ ?_)
            refine sc_ret (t_retv (rs := [.cell 2 23, .tmp 3]) (vs := [_, _]) rfl rfl (evr_c rfl agg_api_Type rfl (by first | exact B1.row | exact B2.row) (evr_t rfl (evr_nil))) rfl ?_)
            refine ⟨?_, g⟩
            have h0 : Str [] = .string ⟨#[]⟩ := rfl
            unfold ofF; simp only [hq, Bool.not_true, Bool.not_false, h1, h2, h3, h5, h6, cond_true, cond_false]
            first
            | rfl
            | (rw [of_decide_eq_true h6]; rfl)
            | (rw [of_decide_eq_true h7]; rfl)
            | (rw [typ_bad h11]; rfl)
            | (obtain ⟨e1, e2⟩ := typ_find h12 h11 (of_decide_eq_true h13); rw [e1, e2]; rfl)
            | (rw [typ_none h6 h7 (fun j hj => hI1.2 j (by omega))]; rfl)
          · (try simp only [bsimp] at h6)
            refine sc_seq fun K18 hK18 => ?_
            refine sc_text [3, 3] ?_
            refine sr_pu rfl (fun _ => rd_seq (ev_t rfl) ev_c) ?_
            refine sr_pu rfl (fun _ => rd_assign (ev_t rfl)) ?_
            refine sr_sub [(1, _, _), (2, _, _), (3, _, _), (30, _, _), (34, _, _)] (sub_cons rfl (sub_cons rfl (sub_cons rfl (sub_cons rfl (sub_cons rfl (sub_nil _)))))) ?_
            refine sr_nil (hK18 _ _ ?_)
            refine sc_cond (ev_t rfl) (fun h7 => ?_) (fun h7 => ?_)
            · (try simp only [bsimp] at h7)
              refine sc_seq fun K19 hK19 => ?_
              refine sc_text [3, 2, 3] ?_
              refine sr_pu rfl (fun _ => rd_build [_, _] ze_api_Type rfl pl_api_Type (parts_cons ev_c (parts_nil)) rfl) ?_
              refine sr_store_all rfl sz_api_Type (ev_t rfl) (ev_t rfl) rfl rfl B2 rfl rfl ?_
              intro wS6 hgS6 hzS6
              clear B2
              intro B2
              replace B1 := B1.keep hgS6 (by intro h; injection h with h; omega)
              have g := g_only g hgS6 (by intro k hk; injection hk with hk; omega)
              refine sr_pu rfl (fun _ => rd_assign ev_c) ?_
              refine sr_sub [(1, _, _), (2, _, _), (3, _, _)] (sub_cons rfl (sub_cons rfl (sub_cons rfl (sub_nil _)))) ?_
              refine sr_nil (hK19 _ _ ?_)
              refine sc_ret (t_retv (rs := [.cell 2 23, .tmp 3]) (vs := [_, _]) rfl rfl (evr_c rfl agg_api_Type rfl (by first | exact B1.row | exact B2.row) (evr_t rfl (evr_nil))) rfl ?_)
              refine ⟨?_, g⟩
              have h0 : Str [] = .string ⟨#[]⟩ := rfl
              unfold ofF; simp only [hq, Bool.not_true, Bool.not_false, h1, h2, h3, h5, h6, h7, cond_true, cond_false]
              first
              | rfl
              | (rw [of_decide_eq_true h6]; rfl)
              | (rw [of_decide_eq_true h7]; rfl)
              | (rw [typ_bad h11]; rfl)
              | (obtain ⟨e1, e2⟩ := typ_find h12 h11 (of_decide_eq_true h13); rw [e1, e2]; rfl)
              | (rw [typ_none h6 h7 (fun j hj => hI1.2 j (by omega))]; rfl)
            · (try simp only [bsimp] at h7)
              refine sc_seq fun K20 hK20 => ?_
              refine sc_seq fun K21 hK21 => ?_
              refine sc_text [3, 3] ?_
              refine sr_pu rfl (fun _ => rd_seq (ev_t rfl) ev_c) ?_
              refine sr_pu rfl (fun _ => rd_assign (ev_t rfl)) ?_
              refine sr_sub [(1, _, _), (2, _, _), (3, _, _), (30, _, _), (37, _, _)] (sub_cons rfl (sub_cons rfl (sub_cons rfl (sub_cons rfl (sub_cons rfl (sub_nil _)))))) ?_
              refine sr_nil (hK21 _ _ ?_)
              refine' sc_or [(1, _, _), (2, _, _), (3, _, _)] (sub_cons rfl (sub_cons rfl (sub_cons rfl (sub_cons rfl (sub_nil _))))) rfl (fun hb8 => ?y8) (hK20 _ _ ?n8)
              case y8 =>
               refine sc_seq fun K22 hK22 => ?_
               refine sc_text [3, 3] ?_
               refine sr_pu rfl (fun _ => rd_seq (ev_t rfl) ev_c) ?_
               refine sr_pu rfl (fun _ => rd_assign (ev_t rfl)) ?_
               refine sr_sub [(1, _, _), (2, _, _), (3, _, _), (30, _, _), (37, _, _)] (sub_cons rfl (sub_cons rfl (sub_cons rfl (sub_cons rfl (sub_cons rfl (sub_nil _)))))) ?_
               refine sr_nil (hK22 _ _ ?_)
               refine' sc_or [(1, _, _), (2, _, _), (3, _, _)] (sub_cons rfl (sub_cons rfl (sub_cons rfl (sub_cons rfl (sub_nil _))))) rfl (fun hb9 => ?y9) (fun a ha => ⟨ha, rfl⟩)
               case y9 =>
                refine sc_seq fun K23 hK23 => ?_
                refine sc_text [3, 3] ?_
                refine sr_pu rfl (fun _ => rd_seq (ev_t rfl) ev_c) ?_
                refine sr_pu rfl (fun _ => rd_assign (ev_t rfl)) ?_
                refine sr_sub [(1, _, _), (2, _, _), (3, _, _), (30, _, _), (37, _, _)] (sub_cons rfl (sub_cons rfl (sub_cons rfl (sub_cons rfl (sub_cons rfl (sub_nil _)))))) ?_
                refine sr_nil (hK23 _ _ ?_)
                refine' sc_or [(1, _, _), (2, _, _), (3, _, _)] (sub_cons rfl (sub_cons rfl (sub_cons rfl (sub_cons rfl (sub_nil _))))) rfl (fun hb10 => ?y10) (fun a ha => ⟨ha, rfl⟩)
                case y10 =>
                 refine sc_text [3, 3] ?_
                 refine sr_pu rfl (fun _ => rd_seq (ev_t rfl) ev_c) ?_
                 refine sr_pu rfl (fun _ => rd_assign (ev_t rfl)) ?_
                 refine sr_sub [(37, _, _), (1, _, _), (2, _, _), (3, _, _)] (sub_cons rfl (sub_cons rfl (sub_cons rfl (sub_cons rfl (sub_nil _))))) ?_
                 exact sr_nil (fun a ha => ⟨ha, rfl⟩)
              case n8 =>
               refine sc_cond (ev_t rfl) (fun h11 => ?_) (fun h11 => ?_)
               · replace h11 : (anyS [[], [110, 105, 108], [99, 104, 97, 110, 32, 105, 110, 116], [102, 117, 110, 99, 40, 41]] t.text) = true := h11
                 refine sc_seq fun K24 hK24 => ?_
                 refine sc_text [3, 2, 3] ?_
                 refine sr_pu rfl (fun _ => rd_build [_, _] ze_api_Type rfl pl_api_Type (parts_nil) rfl) ?_
                 refine sr_store_all rfl sz_api_Type (ev_t rfl) (ev_t rfl) rfl rfl B2 rfl rfl ?_
                 intro wS7 hgS7 hzS7
                 clear B2
                 intro B2
                 replace B1 := B1.keep hgS7 (by intro h; injection h with h; omega)
                 have g := g_only g hgS7 (by intro k hk; injection hk with hk; omega)
                 refine sr_pu rfl (fun _ => rd_assign ev_c) ?_
                 refine sr_sub [(1, _, _), (2, _, _), (3, _, _)] (sub_cons rfl (sub_cons rfl (sub_cons rfl (sub_nil _)))) ?_
                 refine sr_nil (hK24 _ _ ?_)
                 refine sc_ret (t_retv (rs := [.cell 2 23, .tmp 3]) (vs := [_, _]) rfl rfl (evr_c rfl agg_api_Type rfl (by first | exact B1.row | exact B2.row) (evr_t rfl (evr_nil))) rfl ?_)
                 refine ⟨?_, g⟩
                 have h0 : Str [] = .string ⟨#[]⟩ := rfl
                 unfold ofF; simp only [hq, Bool.not_true, Bool.not_false, h1, h2, h3, h5, h6, h7, h11, cond_true, cond_false]
                 first
                 | rfl
                 | (rw [of_decide_eq_true h6]; rfl)
                 | (rw [of_decide_eq_true h7]; rfl)
                 | (rw [typ_bad h11]; rfl)
                 | (obtain ⟨e1, e2⟩ := typ_find h12 h11 (of_decide_eq_true h13); rw [e1, e2]; rfl)
                 | (rw [typ_none h6 h7 (fun j hj => hI1.2 j (by omega))]; rfl)
               · replace h11 : (anyS [[], [110, 105, 108], [99, 104, 97, 110, 32, 105, 110, 116], [102, 117, 110, 99, 40, 41]] t.text) = false := h11
                 refine sc_skip (hK14 _ _ ?_)
                 refine sc_sub [(1, _, _), (2, _, _), (3, _, _)] (sub_cons rfl (sub_cons rfl (sub_cons rfl (sub_nil _)))) ?_
                 refine sc_seq fun K25 hK25 => ?_
                 refine sc_text [0, 3] ?_
                 refine sr_rd rfl (rd_loads agg_13_string ev_g rfl (fun _ => hTx.grow g)) ?_
                 refine sr_pu rfl (fun _ => rd_move ev_c) ?_
                 refine sr_nil (hK25 _ _ ?_)
                 refine sc_block ?_
                 refine sc_loop2 (fun (i : Nat) u1 => (i ≤ 13 ∧ ∀ j, j < i → typTexts.getD j [] ≠ t.text) ∧ G w2 u1) [(1, True, _), (2, True, _), (43, True, _)] (fun (i : Nat) => [(44, True, .int .i64 i)]) (fun (i : Nat) => 13 - i) (0) ⟨⟨Nat.zero_le _, fun j hj => absurd hj (Nat.not_lt_zero j)⟩, G.refl _⟩ (sub_cons rfl (sub_cons rfl (sub_cons rfl (sub_cons rfl (sub_nil _))))) ?_
                 rintro i u1 ⟨hI1, gl1⟩
                 have g := g.trans gl1
                 replace B1 := B1.grow (gl1)
                 replace B2 := B2.grow (gl1)
                 refine sc_seq fun K26 hK26 => ?_
                 refine sc_text [3] ?_
                 refine sr_pu rfl (fun _ => rd_lt (ev_t rfl) ev_c) ?_
                 refine sr_nil (hK26 _ _ ?_)
                 refine sc_sub [(1, _, _), (2, _, _), (43, _, _), (44, _, _), (45, _, _)] (sub_cons rfl (sub_cons rfl (sub_cons rfl (sub_cons rfl (sub_cons rfl (sub_nil _)))))) ?_
                 refine sc_seq fun K27 hK27 => ?_
                 refine sc_cond (ev_t rfl) (fun h12 => ?_) (fun h12 => ?_)
                 · replace h12 : i < 13 := by simp only [decide_eq_true_eq] at h12; omega
                   refine sc_skip (hK27 _ _ ?_)
                   refine sc_seq fun K28 hK28 => ?_
                   refine sc_block ?_
                   refine sc_seq fun K29 hK29 => ?_
                   refine sc_text [3, 3, 3, 3] ?_
                   refine sr_pu rfl (fun _ => rd_move (ev_t rfl)) ?_
                   refine sr_pu rfl (fun _ => rd_aidx ar_13_string (ev_t rfl) (ev_t rfl) (fun _ => by omega) (fun _ => by show (typTexts.map Str).toArray[((i : Nat) : Int).toNat]? = _; rw [List.getElem?_toArray]; exact texts_at (k := (i : Int)) (by omega) (by omega))) ?_
                   refine sr_pu rfl (fun _ => rd_assign (ev_t rfl)) ?_
                   refine sr_pu rfl (fun _ => rd_assign (ev_t rfl)) ?_
                   refine sr_nil (hK29 _ _ ?_)
                   refine sc_sub [(1, _, _), (2, _, _), (4, _, _), (5, _, _), (43, _, _), (44, _, _), (45, _, _), (46, _, _), (47, _, _)] (sub_cons rfl (sub_cons rfl (sub_cons rfl (sub_cons rfl (sub_cons rfl (sub_cons rfl (sub_cons rfl (sub_cons rfl (sub_cons rfl (sub_nil _)))))))))) ?_
                   refine sc_seq fun K30 hK30 => ?_
                   refine sc_text [3, 3, 0, 3] ?_
                   refine sr_pu rfl (fun _ => rd_move (ev_t rfl)) ?_
                   refine sr_pu rfl (fun _ => rd_field fo_api_Node_1 (ev_t rfl)) ?_
                   refine sr_rd rfl (rd_load one_string (ev_t rfl) (fun _ => B1.at_ rfl)) ?_
                   refine sr_pu rfl (fun _ => rd_seq (ev_t rfl) (ev_t rfl)) ?_
                   refine sr_nil (hK30 _ _ ?_)
                   refine sc_cond (ev_t rfl) (fun h13 => ?_) (fun h13 => ?_)
                   · replace h13 : (decide (typTexts.getD i [] = t.text)) = true := h13
                     refine sc_seq fun K31 hK31 => ?_
                     refine sc_text [3, 3, 2, 3] ?_
                     refine sr_pu rfl (fun _ => rd_move (ev_t rfl)) ?_
                     refine sr_pu rfl (fun _ => rd_build [_, _] ze_api_Type rfl pl_api_Type (parts_cons (ev_t rfl) (parts_nil)) rfl) ?_
                     refine sr_store_all rfl sz_api_Type (ev_t rfl) (ev_t rfl) rfl rfl B2 rfl rfl ?_
                     intro wS8 hgS8 hzS8
                     clear B2
                     intro B2
                     replace B1 := B1.keep hgS8 (by intro h; injection h with h; omega)
                     have g := g_only g hgS8 (by intro k hk; injection hk with hk; omega)
                     first | replace gl1 := g_only gl1 hgS8 (by intro k hk; injection hk with hk; omega) | clear gl1 | skip
                     refine sr_pu rfl (fun _ => rd_assign ev_c) ?_
                     refine sr_nil (hK31 _ _ ?_)
                     refine sc_sub [(1, _, _), (2, _, _), (3, _, _), (4, _, _), (5, _, _), (43, _, _), (44, _, _), (45, _, _), (46, _, _), (47, _, _), (48, _, _), (49, _, _), (50, _, _), (51, _, _), (52, _, _), (53, _, _)] (sub_cons rfl (sub_cons rfl (sub_cons rfl (sub_cons rfl (sub_cons rfl (sub_cons rfl (sub_cons rfl (sub_cons rfl (sub_cons rfl (sub_cons rfl (sub_cons rfl (sub_cons rfl (sub_cons rfl (sub_cons rfl (sub_cons rfl (sub_cons rfl (sub_nil _))))))))))))))))) ?_
                     refine sc_ret (t_retv (rs := [.cell 2 23, .tmp 3]) (vs := [_, _]) rfl rfl (evr_c rfl agg_api_Type rfl (by first | exact B1.row | exact B2.row) (evr_t rfl (evr_nil))) rfl ?_)
                     refine ⟨?_, g⟩
                     have h0 : Str [] = .string ⟨#[]⟩ := rfl
                     unfold ofF; simp only [hq, Bool.not_true, Bool.not_false, h1, h2, h3, h5, h6, h7, h11, h12, h13, cond_true, cond_false]
                     first
                     | rfl
                     | (rw [of_decide_eq_true h6]; rfl)
                     | (rw [of_decide_eq_true h7]; rfl)
                     | (rw [typ_bad h11]; rfl)
                     | (obtain ⟨e1, e2⟩ := typ_find h12 h11 (of_decide_eq_true h13); rw [e1, e2]; rfl)
                     | (rw [typ_none h6 h7 (fun j hj => hI1.2 j (by omega))]; rfl)
                   · replace h13 : (decide (typTexts.getD i [] = t.text)) = false := h13
                     refine sc_skip (hK28 _ _ ?_)
                     refine sc_text [3, 3] ?_
                     refine sr_pu rfl (fun _ => rd_add (ev_t rfl) ev_c (fun _ => by omega)) ?_
                     refine sr_pu rfl (fun _ => rd_move (ev_t rfl)) ?_
                     refine sr_sub [(44, _, _), (1, _, _), (2, _, _), (43, _, _)] (sub_cons rfl (sub_cons rfl (sub_cons rfl (sub_cons rfl (sub_nil _))))) ?_
                     refine sr_nil (fun a ha => ?_)
                     exact ⟨i + 1, ha, ⟨⟨h12, fun j hj => by
                       by_cases e : j = i
                       · subst e; simpa using h13
                       · exact hI1.2 j (by omega)⟩, gl1⟩, by omega⟩
                 · replace h12 : i = 13 := by simp only [decide_eq_false_iff_not] at h12; omega
                   refine sc_exit rfl (hK5 _ _ ?_)
                   refine sc_seq fun K32 hK32 => ?_
                   refine sc_text [3, 2, 3] ?_
                   refine sr_pu rfl (fun _ => rd_build [_, _] ze_api_Type rfl pl_api_Type (parts_nil) rfl) ?_
                   refine sr_store_all rfl sz_api_Type (ev_t rfl) (ev_t rfl) rfl rfl B2 rfl rfl ?_
                   intro wS9 hgS9 hzS9
                   clear B2
                   intro B2
                   replace B1 := B1.keep hgS9 (by intro h; injection h with h; omega)
                   have g := g_only g hgS9 (by intro k hk; injection hk with hk; omega)
                   first | replace gl1 := g_only gl1 hgS9 (by intro k hk; injection hk with hk; omega) | clear gl1 | skip
                   refine sr_pu rfl (fun _ => rd_assign ev_c) ?_
                   refine sr_nil (hK32 _ _ ?_)
                   refine sc_sub [(1, _, _), (2, _, _), (3, _, _), (43, _, _), (44, _, _), (45, _, _), (55, _, _)] (sub_cons rfl (sub_cons rfl (sub_cons rfl (sub_cons rfl (sub_cons rfl (sub_cons rfl (sub_cons rfl (sub_nil _)))))))) ?_
                   refine sc_ret (t_retv (rs := [.cell 2 23, .tmp 3]) (vs := [_, _]) rfl rfl (evr_c rfl agg_api_Type rfl (by first | exact B1.row | exact B2.row) (evr_t rfl (evr_nil))) rfl ?_)
                   refine ⟨?_, g⟩
                   have h0 : Str [] = .string ⟨#[]⟩ := rfl
                   unfold ofF; simp only [hq, Bool.not_true, Bool.not_false, h1, h2, h3, h5, h6, h7, h11, h12, cond_true, cond_false]
                   first
                   | rfl
                   | (rw [of_decide_eq_true h6]; rfl)
                   | (rw [of_decide_eq_true h7]; rfl)
                   | (rw [typ_bad h11]; rfl)
                   | (obtain ⟨e1, e2⟩ := typ_find h12 h11 (of_decide_eq_true h13); rw [e1, e2]; rfl)
                   | (rw [typ_none h6 h7 (fun j hj => hI1.2 j (by omega))]; rfl)
        · (try simp only [bsimp] at h5)
          refine sc_skip (hK5 _ _ ?_)
          refine sc_sub [(2, _, _), (3, _, _)] (sub_cons rfl (sub_cons rfl (sub_nil _))) ?_
          refine sc_seq fun K33 hK33 => ?_
          refine sc_text [3, 2, 3] ?_
          refine sr_pu rfl (fun _ => rd_build [_, _] ze_api_Type rfl pl_api_Type (parts_nil) rfl) ?_
          refine sr_store_all rfl sz_api_Type (ev_t rfl) (ev_t rfl) rfl rfl B2 rfl rfl ?_
          intro wS10 hgS10 hzS10
          clear B2
          intro B2
          replace B1 := B1.keep hgS10 (by intro h; injection h with h; omega)
          have g := g_only g hgS10 (by intro k hk; injection hk with hk; omega)
          refine sr_pu rfl (fun _ => rd_assign ev_c) ?_
          refine sr_nil (hK33 _ _ ?_)
          refine sc_ret (t_retv (rs := [.cell 2 23, .tmp 3]) (vs := [_, _]) rfl rfl (evr_c rfl agg_api_Type rfl (by first | exact B1.row | exact B2.row) (evr_t rfl (evr_nil))) rfl ?_)
          refine ⟨?_, g⟩
          have h0 : Str [] = .string ⟨#[]⟩ := rfl
          unfold ofF; simp only [hq, Bool.not_true, Bool.not_false, h1, h2, h3, h5, cond_true, cond_false]
          first
          | rfl
          | (rw [of_decide_eq_true h6]; rfl)
          | (rw [of_decide_eq_true h7]; rfl)
          | (rw [typ_bad h11]; rfl)
          | (obtain ⟨e1, e2⟩ := typ_find h12 h11 (of_decide_eq_true h13); rw [e1, e2]; rfl)
          | (rw [typ_none h6 h7 (fun j hj => hI1.2 j (by omega))]; rfl)
end Go.Rk
