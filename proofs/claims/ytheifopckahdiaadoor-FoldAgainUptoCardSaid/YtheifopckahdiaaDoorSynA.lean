/- Syntax: conditions on kinds, as functions. Conditions: what start-up laid. -/
import Derived.Test.YtheifopckahdiaaDoorFn
import Derived.Test.YtheifopckahdiaaDoorRefB
namespace Go.Rk
open Go Go.RowKit
def typK (k : Int) : Bool := anyK [7, 8] k
def expK (k : Int) : Bool := anyK [28, 29, 30, 31, 32, 33, 35, 36, 37, 27, 34, 24, 25, 26, 38] k
def stK (k : Int) : Bool := anyK [6, 10, 11, 12, 13, 14, 15, 16, 17, 21, 18, 19, 20, 22] k
def memK (l : List Int) (k : Int) : Bool := decide (k ∈ l)
theorem synname_ok (s : List UInt8) (w : World) (hL : Laid w) (hb3 : 4 ≤ w.heap.size) : Ret PP fn_syntax_name #[Str s] w fun v w' => v = .bool (nameB s) ∧ G w w' := by
  have g := G.refl w
  refine ret_of_sc (m := 34) func_syntax_name rfl rfl [(0, True, _)] (sub_cons rfl (sub_nil _)) ?_
  refine sc_seq fun K1 hK1 => ?_
  refine sc_text [3] ?_
  refine sr_pu rfl (fun _ => rd_assign ev_c) ?_
  refine sr_nil (hK1 _ _ ?_)
  refine sc_seq fun K2 hK2 => ?_
  refine sc_text [3, 1, 3, 3, 3, 3, 3, 3, 3] ?_
  refine sr_pu rfl (fun _ => rd_move (ev_t rfl)) ?_
  refine sr_call rfl (rc_call go_scan_Scan ev_f (args_cons (ev_t rfl) (args_nil)) rfl) (scan_ok s _ (hL.grow g) (by have := g.size; omega)) ?_
  rintro v8 w8 ⟨l, rfl, hT, g8⟩
  obtain ⟨a, c, rfl, hr⟩ := toks_slice hT
  refine ⟨fun _ => g8, ?_⟩
  have g := g.trans g8
  refine sr_pu rfl (fun _ => rd_move (ev_t rfl)) ?_
  refine sr_pu rfl (fun _ => rd_extract (ev_t rfl) rfl) ?_
  refine sr_pu rfl (fun _ => rd_extract (ev_t rfl) rfl) ?_
  refine sr_pu rfl (fun _ => rd_extract (ev_t rfl) rfl) ?_
  refine sr_pu rfl (fun _ => rd_assign (ev_t rfl)) ?_
  refine sr_pu rfl (fun _ => rd_assign (ev_t rfl)) ?_
  refine sr_pu rfl (fun _ => rd_assign (ev_t rfl)) ?_
  refine sr_sub [(0, _, _), (2, _, _), (3, _, _), (5, _, _)] (sub_cons rfl (sub_cons rfl (sub_cons rfl (sub_cons rfl (sub_nil _))))) ?_
  refine sr_nil (hK2 _ _ ?_)
  refine sc_seq fun K3 hK3 => ?_
  refine sc_text [3, 3, 3, 3, 3, 3, 3, 3, 3, 3, 3, 0, 3, 3, 3, 3, 3, 3, 0, 3, 3, 3, 3] ?_
  refine sr_pu rfl (fun _ => rd_move (ev_t rfl)) ?_
  refine sr_pu rfl (fun _ => rd_eq (ev_t rfl) ev_c) ?_
  refine sr_pu rfl (fun _ => rd_move (ev_t rfl)) ?_
  refine sr_pug rfl rfl rfl (fun _ => rd_move (ev_t rfl)) ?_
  refine sr_pug rfl rfl rfl (fun _ => rd_len el_sl_api_Token (ev_u rfl id)) ?_
  refine sr_pug rfl rfl rfl (fun _ => rd_eq (ev_u rfl id) ev_c) ?_
  refine sr_pu rfl (fun _ => rd_pick_and (ev_t rfl) (ev_u rfl id)) ?_
  refine sr_pu rfl (fun _ => rd_move (ev_t rfl)) ?_
  refine sr_pug rfl rfl rfl (fun _ => rd_move (ev_t rfl)) ?_
  refine sr_pug rfl rfl rfl (fun _ => rd_idxq el_sl_api_Token (ev_u rfl id) ev_c (fun hc => by have := of_decide_eq_true (Bool.and_eq_true_iff.1 hc.2).2; omega) (fun hc => (hr (by have := of_decide_eq_true (Bool.and_eq_true_iff.1 hc.2).2; omega)).1)) ?_
  refine sr_pug rfl rfl rfl (fun _ => rd_field fo_api_Token_0 (ev_u rfl id)) ?_
  refine sr_rdg rfl rfl rfl (rd_load one_int (ev_u rfl id) (fun hc => (hr (by have := of_decide_eq_true (Bool.and_eq_true_iff.1 hc.2).2; omega)).2 0 _ rfl)) ?_
  refine sr_pug rfl rfl rfl (fun _ => rd_eq (ev_u rfl id) ev_c) ?_
  refine sr_pu rfl (fun _ => rd_pick_and (ev_t rfl) (ev_u rfl id)) ?_
  refine sr_pu rfl (fun _ => rd_move (ev_t rfl)) ?_
  refine sr_pug rfl rfl rfl (fun _ => rd_move (ev_t rfl)) ?_
  refine sr_pug rfl rfl rfl (fun _ => rd_idxq el_sl_api_Token (ev_u rfl id) ev_c (fun hc => by have := of_decide_eq_true (Bool.and_eq_true_iff.1 (Bool.and_eq_true_iff.1 hc.2).1).2; omega) (fun hc => (hr (by have := of_decide_eq_true (Bool.and_eq_true_iff.1 (Bool.and_eq_true_iff.1 hc.2).1).2; omega)).1)) ?_
  refine sr_pug rfl rfl rfl (fun _ => rd_field fo_api_Token_1 (ev_u rfl id)) ?_
  refine sr_rdg rfl rfl rfl (rd_load one_string (ev_u rfl id) (fun hc => (hr (by have := of_decide_eq_true (Bool.and_eq_true_iff.1 (Bool.and_eq_true_iff.1 hc.2).1).2; omega)).2 1 _ rfl)) ?_
  refine sr_pug rfl rfl rfl (fun _ => rd_move (ev_t rfl)) ?_
  refine sr_pug rfl rfl rfl (fun _ => rd_seq (ev_u rfl id) (ev_u rfl id)) ?_
  refine sr_pu rfl (fun _ => rd_pick_and (ev_t rfl) (ev_u rfl id)) ?_
  refine sr_pu rfl (fun _ => rd_assign (ev_t rfl)) ?_
  refine sr_sub [(2, _, _)] (sub_cons rfl (sub_nil _)) ?_
  refine sr_nil (hK3 _ _ ?_)
  refine sc_ret (t_ret1 rfl rfl ?_)
  refine ⟨congrArg Value.bool ?_, g⟩
  rw [← nameP_eq]; rfl
theorem typed_ok (k : Int) (w : World) : Ret PP fn_syntax_typed #[.int .i64 k] w fun v w' => v = .bool (typK k) ∧ G w w' := by
  have g := G.refl w
  refine ret_of_sc (m := 9) func_syntax_typed rfl rfl [(0, True, _)] (sub_cons rfl (sub_nil _)) ?_
  refine sc_seq fun K1 hK1 => ?_
  refine sc_text [3] ?_
  refine sr_pu rfl (fun _ => rd_assign ev_c) ?_
  refine sr_nil (hK1 _ _ ?_)
  refine sc_seq fun K2 hK2 => ?_
  refine sc_text [3, 3, 3, 3, 3, 3, 3] ?_
  refine sr_pu rfl (fun _ => rd_move (ev_t rfl)) ?_
  refine sr_pu rfl (fun _ => rd_eq (ev_t rfl) ev_c) ?_
  refine sr_pu rfl (fun _ => rd_move (ev_t rfl)) ?_
  refine sr_pug rfl rfl rfl (fun _ => rd_move (ev_t rfl)) ?_
  refine sr_pug rfl rfl rfl (fun _ => rd_eq (ev_u rfl id) ev_c) ?_
  refine sr_pu rfl (fun _ => rd_pick_or (ev_t rfl) (ev_u rfl id)) ?_
  refine sr_pu rfl (fun _ => rd_assign (ev_t rfl)) ?_
  refine sr_sub [(2, _, _)] (sub_cons rfl (sub_nil _)) ?_
  refine sr_nil (hK2 _ _ ?_)
  refine sc_ret (t_ret1 rfl rfl ?_)
  exact ⟨rfl, g⟩
theorem expression_ok (k : Int) (w : World) : Ret PP fn_syntax_expression #[.int .i64 k] w fun v w' => v = .bool (expK k) ∧ G w w' := by
  have g := G.refl w
  refine ret_of_sc (m := 20) func_syntax_expression rfl rfl [(0, True, _)] (sub_cons rfl (sub_nil _)) ?_
  refine sc_seq fun K1 hK1 => ?_
  refine sc_text [3] ?_
  refine sr_pu rfl (fun _ => rd_assign ev_c) ?_
  refine sr_nil (hK1 _ _ ?_)
  refine sc_seq fun K2 hK2 => ?_
  refine sc_seq fun K3 hK3 => ?_
  refine sc_text [3] ?_
  refine sr_pu rfl (fun _ => rd_move (ev_t rfl)) ?_
  refine sr_sub [(2, _, _), (3, _, _)] (sub_cons rfl (sub_cons rfl (sub_nil _))) ?_
  refine sr_nil (hK3 _ _ ?_)
  refine sc_block ?_
  refine sc_seq fun K4 hK4 => ?_
  refine sc_seq fun K5 hK5 => ?_
  refine sc_text [3, 3] ?_
  refine sr_pu rfl (fun _ => rd_eq (ev_t rfl) ev_c) ?_
  refine sr_pu rfl (fun _ => rd_assign (ev_t rfl)) ?_
  refine sr_sub [(2, _, _), (3, _, _), (4, _, _)] (sub_cons rfl (sub_cons rfl (sub_cons rfl (sub_nil _)))) ?_
  refine sr_nil (hK5 _ _ ?_)
  refine' sc_or [(2, _, _)] (sub_cons rfl (sub_cons rfl (sub_nil _))) rfl (fun hb1 => ?y1) (hK4 _ _ ?n1)
  case y1 =>
   refine sc_seq fun K6 hK6 => ?_
   refine sc_text [3, 3] ?_
   refine sr_pu rfl (fun _ => rd_eq (ev_t rfl) ev_c) ?_
   refine sr_pu rfl (fun _ => rd_assign (ev_t rfl)) ?_
   refine sr_sub [(2, _, _), (3, _, _), (4, _, _)] (sub_cons rfl (sub_cons rfl (sub_cons rfl (sub_nil _)))) ?_
   refine sr_nil (hK6 _ _ ?_)
   refine' sc_or [(2, _, _)] (sub_cons rfl (sub_cons rfl (sub_nil _))) rfl (fun hb2 => ?y2) (fun a ha => ⟨ha, rfl⟩)
   case y2 =>
    refine sc_seq fun K7 hK7 => ?_
    refine sc_text [3, 3] ?_
    refine sr_pu rfl (fun _ => rd_eq (ev_t rfl) ev_c) ?_
    refine sr_pu rfl (fun _ => rd_assign (ev_t rfl)) ?_
    refine sr_sub [(2, _, _), (3, _, _), (4, _, _)] (sub_cons rfl (sub_cons rfl (sub_cons rfl (sub_nil _)))) ?_
    refine sr_nil (hK7 _ _ ?_)
    refine' sc_or [(2, _, _)] (sub_cons rfl (sub_cons rfl (sub_nil _))) rfl (fun hb3 => ?y3) (fun a ha => ⟨ha, rfl⟩)
    case y3 =>
     refine sc_seq fun K8 hK8 => ?_
     refine sc_text [3, 3] ?_
     refine sr_pu rfl (fun _ => rd_eq (ev_t rfl) ev_c) ?_
     refine sr_pu rfl (fun _ => rd_assign (ev_t rfl)) ?_
     refine sr_sub [(2, _, _), (3, _, _), (4, _, _)] (sub_cons rfl (sub_cons rfl (sub_cons rfl (sub_nil _)))) ?_
     refine sr_nil (hK8 _ _ ?_)
     refine' sc_or [(2, _, _)] (sub_cons rfl (sub_cons rfl (sub_nil _))) rfl (fun hb4 => ?y4) (fun a ha => ⟨ha, rfl⟩)
     case y4 =>
      refine sc_seq fun K9 hK9 => ?_
      refine sc_text [3, 3] ?_
      refine sr_pu rfl (fun _ => rd_eq (ev_t rfl) ev_c) ?_
      refine sr_pu rfl (fun _ => rd_assign (ev_t rfl)) ?_
      refine sr_sub [(2, _, _), (3, _, _), (4, _, _)] (sub_cons rfl (sub_cons rfl (sub_cons rfl (sub_nil _)))) ?_
      refine sr_nil (hK9 _ _ ?_)
      refine' sc_or [(2, _, _)] (sub_cons rfl (sub_cons rfl (sub_nil _))) rfl (fun hb5 => ?y5) (fun a ha => ⟨ha, rfl⟩)
      case y5 =>
       refine sc_seq fun K10 hK10 => ?_
       refine sc_text [3, 3] ?_
       refine sr_pu rfl (fun _ => rd_eq (ev_t rfl) ev_c) ?_
       refine sr_pu rfl (fun _ => rd_assign (ev_t rfl)) ?_
       refine sr_sub [(2, _, _), (3, _, _), (4, _, _)] (sub_cons rfl (sub_cons rfl (sub_cons rfl (sub_nil _)))) ?_
       refine sr_nil (hK10 _ _ ?_)
       refine' sc_or [(2, _, _)] (sub_cons rfl (sub_cons rfl (sub_nil _))) rfl (fun hb6 => ?y6) (fun a ha => ⟨ha, rfl⟩)
       case y6 =>
        refine sc_seq fun K11 hK11 => ?_
        refine sc_text [3, 3] ?_
        refine sr_pu rfl (fun _ => rd_eq (ev_t rfl) ev_c) ?_
        refine sr_pu rfl (fun _ => rd_assign (ev_t rfl)) ?_
        refine sr_sub [(2, _, _), (3, _, _), (4, _, _)] (sub_cons rfl (sub_cons rfl (sub_cons rfl (sub_nil _)))) ?_
        refine sr_nil (hK11 _ _ ?_)
        refine' sc_or [(2, _, _)] (sub_cons rfl (sub_cons rfl (sub_nil _))) rfl (fun hb7 => ?y7) (fun a ha => ⟨ha, rfl⟩)
        case y7 =>
         refine sc_seq fun K12 hK12 => ?_
         refine sc_text [3, 3] ?_
         refine sr_pu rfl (fun _ => rd_eq (ev_t rfl) ev_c) ?_
         refine sr_pu rfl (fun _ => rd_assign (ev_t rfl)) ?_
         refine sr_sub [(2, _, _), (3, _, _), (4, _, _)] (sub_cons rfl (sub_cons rfl (sub_cons rfl (sub_nil _)))) ?_
         refine sr_nil (hK12 _ _ ?_)
         refine' sc_or [(2, _, _)] (sub_cons rfl (sub_cons rfl (sub_nil _))) rfl (fun hb8 => ?y8) (fun a ha => ⟨ha, rfl⟩)
         case y8 =>
          refine sc_seq fun K13 hK13 => ?_
          refine sc_text [3, 3] ?_
          refine sr_pu rfl (fun _ => rd_eq (ev_t rfl) ev_c) ?_
          refine sr_pu rfl (fun _ => rd_assign (ev_t rfl)) ?_
          refine sr_sub [(2, _, _), (3, _, _), (4, _, _)] (sub_cons rfl (sub_cons rfl (sub_cons rfl (sub_nil _)))) ?_
          refine sr_nil (hK13 _ _ ?_)
          refine' sc_or [(2, _, _)] (sub_cons rfl (sub_cons rfl (sub_nil _))) rfl (fun hb9 => ?y9) (fun a ha => ⟨ha, rfl⟩)
          case y9 =>
           refine sc_seq fun K14 hK14 => ?_
           refine sc_text [3, 3] ?_
           refine sr_pu rfl (fun _ => rd_eq (ev_t rfl) ev_c) ?_
           refine sr_pu rfl (fun _ => rd_assign (ev_t rfl)) ?_
           refine sr_sub [(2, _, _), (3, _, _), (4, _, _)] (sub_cons rfl (sub_cons rfl (sub_cons rfl (sub_nil _)))) ?_
           refine sr_nil (hK14 _ _ ?_)
           refine' sc_or [(2, _, _)] (sub_cons rfl (sub_cons rfl (sub_nil _))) rfl (fun hb10 => ?y10) (fun a ha => ⟨ha, rfl⟩)
           case y10 =>
            refine sc_seq fun K15 hK15 => ?_
            refine sc_text [3, 3] ?_
            refine sr_pu rfl (fun _ => rd_eq (ev_t rfl) ev_c) ?_
            refine sr_pu rfl (fun _ => rd_assign (ev_t rfl)) ?_
            refine sr_sub [(2, _, _), (3, _, _), (4, _, _)] (sub_cons rfl (sub_cons rfl (sub_cons rfl (sub_nil _)))) ?_
            refine sr_nil (hK15 _ _ ?_)
            refine' sc_or [(2, _, _)] (sub_cons rfl (sub_cons rfl (sub_nil _))) rfl (fun hb11 => ?y11) (fun a ha => ⟨ha, rfl⟩)
            case y11 =>
             refine sc_seq fun K16 hK16 => ?_
             refine sc_text [3, 3] ?_
             refine sr_pu rfl (fun _ => rd_eq (ev_t rfl) ev_c) ?_
             refine sr_pu rfl (fun _ => rd_assign (ev_t rfl)) ?_
             refine sr_sub [(2, _, _), (3, _, _), (4, _, _)] (sub_cons rfl (sub_cons rfl (sub_cons rfl (sub_nil _)))) ?_
             refine sr_nil (hK16 _ _ ?_)
             refine' sc_or [(2, _, _)] (sub_cons rfl (sub_cons rfl (sub_nil _))) rfl (fun hb12 => ?y12) (fun a ha => ⟨ha, rfl⟩)
             case y12 =>
              refine sc_seq fun K17 hK17 => ?_
              refine sc_text [3, 3] ?_
              refine sr_pu rfl (fun _ => rd_eq (ev_t rfl) ev_c) ?_
              refine sr_pu rfl (fun _ => rd_assign (ev_t rfl)) ?_
              refine sr_sub [(2, _, _), (3, _, _), (4, _, _)] (sub_cons rfl (sub_cons rfl (sub_cons rfl (sub_nil _)))) ?_
              refine sr_nil (hK17 _ _ ?_)
              refine' sc_or [(2, _, _)] (sub_cons rfl (sub_cons rfl (sub_nil _))) rfl (fun hb13 => ?y13) (fun a ha => ⟨ha, rfl⟩)
              case y13 =>
               refine sc_seq fun K18 hK18 => ?_
               refine sc_text [3, 3] ?_
               refine sr_pu rfl (fun _ => rd_eq (ev_t rfl) ev_c) ?_
               refine sr_pu rfl (fun _ => rd_assign (ev_t rfl)) ?_
               refine sr_sub [(2, _, _), (3, _, _), (4, _, _)] (sub_cons rfl (sub_cons rfl (sub_cons rfl (sub_nil _)))) ?_
               refine sr_nil (hK18 _ _ ?_)
               refine' sc_or [(2, _, _)] (sub_cons rfl (sub_cons rfl (sub_nil _))) rfl (fun hb14 => ?y14) (fun a ha => ⟨ha, rfl⟩)
               case y14 =>
                refine sc_text [3, 3] ?_
                refine sr_pu rfl (fun _ => rd_eq (ev_t rfl) ev_c) ?_
                refine sr_pu rfl (fun _ => rd_assign (ev_t rfl)) ?_
                refine sr_sub [(4, _, _), (2, _, _)] (sub_cons rfl (sub_cons rfl (sub_nil _))) ?_
                exact sr_nil (fun a ha => ⟨ha, rfl⟩)
  case n1 =>
   refine sc_cond (ev_t rfl) (fun h15 => ?_) (fun h15 => ?_)
   · (try simp only [bsimp] at h15)
     refine sc_seq fun K19 hK19 => ?_
     refine sc_text [3] ?_
     refine sr_pu rfl (fun _ => rd_assign ev_c) ?_
     refine sr_sub [(2, _, _)] (sub_cons rfl (sub_nil _)) ?_
     refine sr_nil (hK19 _ _ ?_)
     refine sc_ret (t_ret1 rfl rfl ?_)
     refine ⟨congrArg Value.bool ?_, g⟩
     simp only [expK, anyK]; exact (h15).symm
   · (try simp only [bsimp] at h15)
     refine sc_skip (hK2 _ _ ?_)
     refine sc_sub [(2, _, _)] (sub_cons rfl (sub_nil _)) ?_
     refine sc_seq fun K20 hK20 => ?_
     refine sc_text [3] ?_
     refine sr_pu rfl (fun _ => rd_assign ev_c) ?_
     refine sr_nil (hK20 _ _ ?_)
     refine sc_ret (t_ret1 rfl rfl ?_)
     refine ⟨congrArg Value.bool ?_, g⟩
     simp only [expK, anyK]; exact (h15).symm
theorem statement_ok (k : Int) (w : World) : Ret PP fn_syntax_statement #[.int .i64 k] w fun v w' => v = .bool (stK k) ∧ G w w' := by
  have g := G.refl w
  refine ret_of_sc (m := 19) func_syntax_statement rfl rfl [(0, True, _)] (sub_cons rfl (sub_nil _)) ?_
  refine sc_seq fun K1 hK1 => ?_
  refine sc_text [3] ?_
  refine sr_pu rfl (fun _ => rd_assign ev_c) ?_
  refine sr_nil (hK1 _ _ ?_)
  refine sc_seq fun K2 hK2 => ?_
  refine sc_seq fun K3 hK3 => ?_
  refine sc_text [3] ?_
  refine sr_pu rfl (fun _ => rd_move (ev_t rfl)) ?_
  refine sr_sub [(2, _, _), (3, _, _)] (sub_cons rfl (sub_cons rfl (sub_nil _))) ?_
  refine sr_nil (hK3 _ _ ?_)
  refine sc_block ?_
  refine sc_seq fun K4 hK4 => ?_
  refine sc_seq fun K5 hK5 => ?_
  refine sc_text [3, 3] ?_
  refine sr_pu rfl (fun _ => rd_eq (ev_t rfl) ev_c) ?_
  refine sr_pu rfl (fun _ => rd_assign (ev_t rfl)) ?_
  refine sr_sub [(2, _, _), (3, _, _), (4, _, _)] (sub_cons rfl (sub_cons rfl (sub_cons rfl (sub_nil _)))) ?_
  refine sr_nil (hK5 _ _ ?_)
  refine' sc_or [(2, _, _)] (sub_cons rfl (sub_cons rfl (sub_nil _))) rfl (fun hb1 => ?y1) (hK4 _ _ ?n1)
  case y1 =>
   refine sc_seq fun K6 hK6 => ?_
   refine sc_text [3, 3] ?_
   refine sr_pu rfl (fun _ => rd_eq (ev_t rfl) ev_c) ?_
   refine sr_pu rfl (fun _ => rd_assign (ev_t rfl)) ?_
   refine sr_sub [(2, _, _), (3, _, _), (4, _, _)] (sub_cons rfl (sub_cons rfl (sub_cons rfl (sub_nil _)))) ?_
   refine sr_nil (hK6 _ _ ?_)
   refine' sc_or [(2, _, _)] (sub_cons rfl (sub_cons rfl (sub_nil _))) rfl (fun hb2 => ?y2) (fun a ha => ⟨ha, rfl⟩)
   case y2 =>
    refine sc_seq fun K7 hK7 => ?_
    refine sc_text [3, 3] ?_
    refine sr_pu rfl (fun _ => rd_eq (ev_t rfl) ev_c) ?_
    refine sr_pu rfl (fun _ => rd_assign (ev_t rfl)) ?_
    refine sr_sub [(2, _, _), (3, _, _), (4, _, _)] (sub_cons rfl (sub_cons rfl (sub_cons rfl (sub_nil _)))) ?_
    refine sr_nil (hK7 _ _ ?_)
    refine' sc_or [(2, _, _)] (sub_cons rfl (sub_cons rfl (sub_nil _))) rfl (fun hb3 => ?y3) (fun a ha => ⟨ha, rfl⟩)
    case y3 =>
     refine sc_seq fun K8 hK8 => ?_
     refine sc_text [3, 3] ?_
     refine sr_pu rfl (fun _ => rd_eq (ev_t rfl) ev_c) ?_
     refine sr_pu rfl (fun _ => rd_assign (ev_t rfl)) ?_
     refine sr_sub [(2, _, _), (3, _, _), (4, _, _)] (sub_cons rfl (sub_cons rfl (sub_cons rfl (sub_nil _)))) ?_
     refine sr_nil (hK8 _ _ ?_)
     refine' sc_or [(2, _, _)] (sub_cons rfl (sub_cons rfl (sub_nil _))) rfl (fun hb4 => ?y4) (fun a ha => ⟨ha, rfl⟩)
     case y4 =>
      refine sc_seq fun K9 hK9 => ?_
      refine sc_text [3, 3] ?_
      refine sr_pu rfl (fun _ => rd_eq (ev_t rfl) ev_c) ?_
      refine sr_pu rfl (fun _ => rd_assign (ev_t rfl)) ?_
      refine sr_sub [(2, _, _), (3, _, _), (4, _, _)] (sub_cons rfl (sub_cons rfl (sub_cons rfl (sub_nil _)))) ?_
      refine sr_nil (hK9 _ _ ?_)
      refine' sc_or [(2, _, _)] (sub_cons rfl (sub_cons rfl (sub_nil _))) rfl (fun hb5 => ?y5) (fun a ha => ⟨ha, rfl⟩)
      case y5 =>
       refine sc_seq fun K10 hK10 => ?_
       refine sc_text [3, 3] ?_
       refine sr_pu rfl (fun _ => rd_eq (ev_t rfl) ev_c) ?_
       refine sr_pu rfl (fun _ => rd_assign (ev_t rfl)) ?_
       refine sr_sub [(2, _, _), (3, _, _), (4, _, _)] (sub_cons rfl (sub_cons rfl (sub_cons rfl (sub_nil _)))) ?_
       refine sr_nil (hK10 _ _ ?_)
       refine' sc_or [(2, _, _)] (sub_cons rfl (sub_cons rfl (sub_nil _))) rfl (fun hb6 => ?y6) (fun a ha => ⟨ha, rfl⟩)
       case y6 =>
        refine sc_seq fun K11 hK11 => ?_
        refine sc_text [3, 3] ?_
        refine sr_pu rfl (fun _ => rd_eq (ev_t rfl) ev_c) ?_
        refine sr_pu rfl (fun _ => rd_assign (ev_t rfl)) ?_
        refine sr_sub [(2, _, _), (3, _, _), (4, _, _)] (sub_cons rfl (sub_cons rfl (sub_cons rfl (sub_nil _)))) ?_
        refine sr_nil (hK11 _ _ ?_)
        refine' sc_or [(2, _, _)] (sub_cons rfl (sub_cons rfl (sub_nil _))) rfl (fun hb7 => ?y7) (fun a ha => ⟨ha, rfl⟩)
        case y7 =>
         refine sc_seq fun K12 hK12 => ?_
         refine sc_text [3, 3] ?_
         refine sr_pu rfl (fun _ => rd_eq (ev_t rfl) ev_c) ?_
         refine sr_pu rfl (fun _ => rd_assign (ev_t rfl)) ?_
         refine sr_sub [(2, _, _), (3, _, _), (4, _, _)] (sub_cons rfl (sub_cons rfl (sub_cons rfl (sub_nil _)))) ?_
         refine sr_nil (hK12 _ _ ?_)
         refine' sc_or [(2, _, _)] (sub_cons rfl (sub_cons rfl (sub_nil _))) rfl (fun hb8 => ?y8) (fun a ha => ⟨ha, rfl⟩)
         case y8 =>
          refine sc_seq fun K13 hK13 => ?_
          refine sc_text [3, 3] ?_
          refine sr_pu rfl (fun _ => rd_eq (ev_t rfl) ev_c) ?_
          refine sr_pu rfl (fun _ => rd_assign (ev_t rfl)) ?_
          refine sr_sub [(2, _, _), (3, _, _), (4, _, _)] (sub_cons rfl (sub_cons rfl (sub_cons rfl (sub_nil _)))) ?_
          refine sr_nil (hK13 _ _ ?_)
          refine' sc_or [(2, _, _)] (sub_cons rfl (sub_cons rfl (sub_nil _))) rfl (fun hb9 => ?y9) (fun a ha => ⟨ha, rfl⟩)
          case y9 =>
           refine sc_seq fun K14 hK14 => ?_
           refine sc_text [3, 3] ?_
           refine sr_pu rfl (fun _ => rd_eq (ev_t rfl) ev_c) ?_
           refine sr_pu rfl (fun _ => rd_assign (ev_t rfl)) ?_
           refine sr_sub [(2, _, _), (3, _, _), (4, _, _)] (sub_cons rfl (sub_cons rfl (sub_cons rfl (sub_nil _)))) ?_
           refine sr_nil (hK14 _ _ ?_)
           refine' sc_or [(2, _, _)] (sub_cons rfl (sub_cons rfl (sub_nil _))) rfl (fun hb10 => ?y10) (fun a ha => ⟨ha, rfl⟩)
           case y10 =>
            refine sc_seq fun K15 hK15 => ?_
            refine sc_text [3, 3] ?_
            refine sr_pu rfl (fun _ => rd_eq (ev_t rfl) ev_c) ?_
            refine sr_pu rfl (fun _ => rd_assign (ev_t rfl)) ?_
            refine sr_sub [(2, _, _), (3, _, _), (4, _, _)] (sub_cons rfl (sub_cons rfl (sub_cons rfl (sub_nil _)))) ?_
            refine sr_nil (hK15 _ _ ?_)
            refine' sc_or [(2, _, _)] (sub_cons rfl (sub_cons rfl (sub_nil _))) rfl (fun hb11 => ?y11) (fun a ha => ⟨ha, rfl⟩)
            case y11 =>
             refine sc_seq fun K16 hK16 => ?_
             refine sc_text [3, 3] ?_
             refine sr_pu rfl (fun _ => rd_eq (ev_t rfl) ev_c) ?_
             refine sr_pu rfl (fun _ => rd_assign (ev_t rfl)) ?_
             refine sr_sub [(2, _, _), (3, _, _), (4, _, _)] (sub_cons rfl (sub_cons rfl (sub_cons rfl (sub_nil _)))) ?_
             refine sr_nil (hK16 _ _ ?_)
             refine' sc_or [(2, _, _)] (sub_cons rfl (sub_cons rfl (sub_nil _))) rfl (fun hb12 => ?y12) (fun a ha => ⟨ha, rfl⟩)
             case y12 =>
              refine sc_seq fun K17 hK17 => ?_
              refine sc_text [3, 3] ?_
              refine sr_pu rfl (fun _ => rd_eq (ev_t rfl) ev_c) ?_
              refine sr_pu rfl (fun _ => rd_assign (ev_t rfl)) ?_
              refine sr_sub [(2, _, _), (3, _, _), (4, _, _)] (sub_cons rfl (sub_cons rfl (sub_cons rfl (sub_nil _)))) ?_
              refine sr_nil (hK17 _ _ ?_)
              refine' sc_or [(2, _, _)] (sub_cons rfl (sub_cons rfl (sub_nil _))) rfl (fun hb13 => ?y13) (fun a ha => ⟨ha, rfl⟩)
              case y13 =>
               refine sc_text [3, 3] ?_
               refine sr_pu rfl (fun _ => rd_eq (ev_t rfl) ev_c) ?_
               refine sr_pu rfl (fun _ => rd_assign (ev_t rfl)) ?_
               refine sr_sub [(4, _, _), (2, _, _)] (sub_cons rfl (sub_cons rfl (sub_nil _))) ?_
               exact sr_nil (fun a ha => ⟨ha, rfl⟩)
  case n1 =>
   refine sc_cond (ev_t rfl) (fun h14 => ?_) (fun h14 => ?_)
   · (try simp only [bsimp] at h14)
     refine sc_seq fun K18 hK18 => ?_
     refine sc_text [3] ?_
     refine sr_pu rfl (fun _ => rd_assign ev_c) ?_
     refine sr_sub [(2, _, _)] (sub_cons rfl (sub_nil _)) ?_
     refine sr_nil (hK18 _ _ ?_)
     refine sc_ret (t_ret1 rfl rfl ?_)
     refine ⟨congrArg Value.bool ?_, g⟩
     simp only [stK, anyK]; exact (h14).symm
   · (try simp only [bsimp] at h14)
     refine sc_skip (hK2 _ _ ?_)
     refine sc_sub [(2, _, _)] (sub_cons rfl (sub_nil _)) ?_
     refine sc_seq fun K19 hK19 => ?_
     refine sc_text [3] ?_
     refine sr_pu rfl (fun _ => rd_assign ev_c) ?_
     refine sr_nil (hK19 _ _ ?_)
     refine sc_ret (t_ret1 rfl rfl ?_)
     refine ⟨congrArg Value.bool ?_, g⟩
     simp only [stK, anyK]; exact (h14).symm
theorem among1_ok (l : List Int) (b : Nat) (p : Option Addr) (c : Nat) (k : Int) (w : World) (hB : Blk w b ty_sl_int [.slice p l.length c]) (hp : 0 < l.length → ∃ b o, p = some ⟨b, o, none⟩ ∧ RowAt w b o (l.map (Value.int .i64))) (hl : l.length ≤ 1000) :
    Ret PP fn_syntax_among_1 #[.int .i64 k, .pointer (some ⟨b, 0, none⟩)] w fun v w' => v = .bool (memK l k) ∧ G w w' := by
  have g := G.refl w
  refine ret_of_sc (m := 16) func_syntax_among_1 rfl rfl [(0, True, _), (1, True, _)] (sub_cons rfl (sub_cons rfl (sub_nil _))) ?_
  refine sc_seq fun K1 hK1 => ?_
  refine sc_text [3] ?_
  refine sr_pu rfl (fun _ => rd_assign ev_c) ?_
  refine sr_nil (hK1 _ _ ?_)
  refine sc_seq fun K2 hK2 => ?_
  refine sc_seq fun K3 hK3 => ?_
  refine sc_text [0, 3, 3] ?_
  refine sr_rd rfl (rd_load one_sl_int (ev_t rfl) (fun _ => (hB.grow g).at_ rfl)) ?_
  refine sr_pu rfl (fun _ => rd_len el_sl_int (ev_t rfl)) ?_
  refine sr_pu rfl (fun _ => rd_move ev_c) ?_
  refine sr_sub [(0, _, _), (3, _, _), (6, _, _), (7, _, _), (8, _, _)] (sub_cons rfl (sub_cons rfl (sub_cons rfl (sub_cons rfl (sub_cons rfl (sub_nil _)))))) ?_
  refine sr_nil (hK3 _ _ ?_)
  refine sc_block ?_
  refine sc_loop2 (fun (i : Nat) u1 => (i ≤ l.length ∧ ∀ j, (h : j < l.length) → j < i → l[j] ≠ k) ∧ G w u1) [(0, True, _), (6, True, _), (7, True, _)] (fun (i : Nat) => [(8, True, .int .i64 i)]) (fun (i : Nat) => l.length - i) (0) ⟨⟨Nat.zero_le _, fun j _ hj => absurd hj (Nat.not_lt_zero j)⟩, G.refl _⟩ (sub_cons rfl (sub_cons rfl (sub_cons rfl (sub_cons rfl (sub_nil _))))) ?_
  rintro i u1 ⟨hI1, gl1⟩
  have g := g.trans gl1
  refine sc_seq fun K4 hK4 => ?_
  refine sc_text [3] ?_
  refine sr_pu rfl (fun _ => rd_lt (ev_t rfl) (ev_t rfl)) ?_
  refine sr_nil (hK4 _ _ ?_)
  refine sc_sub [(0, _, _), (6, _, _), (7, _, _), (8, _, _), (9, _, _)] (sub_cons rfl (sub_cons rfl (sub_cons rfl (sub_cons rfl (sub_cons rfl (sub_nil _)))))) ?_
  refine sc_seq fun K5 hK5 => ?_
  refine sc_cond (ev_t rfl) (fun h1 => ?_) (fun h1 => ?_)
  · replace h1 : i < l.length := by simp only [decide_eq_true_eq] at h1; omega
    obtain ⟨b2, o2, rfl, hR⟩ := hp (by omega)
    have hv : (l.map (Value.int .i64))[i * 1]? = some (.int .i64 l[i]) := by simp [h1]
    refine sc_skip (hK5 _ _ ?_)
    refine sc_sub [(0, _, _), (6, _, _), (7, _, _), (8, _, _)] (sub_cons rfl (sub_cons rfl (sub_cons rfl (sub_cons rfl (sub_nil _))))) ?_
    refine sc_seq fun K6 hK6 => ?_
    refine sc_block ?_
    refine sc_seq fun K7 hK7 => ?_
    refine sc_text [3, 0, 3] ?_
    refine sr_pu rfl (fun _ => rd_idx el_sl_int (ev_t rfl) (ev_t rfl) (fun _ => by omega)) ?_
    refine sr_rd rfl (rd_load one_int (ev_t rfl) (fun _ => (hR.grow g) _ _ hv)) ?_
    refine sr_pu rfl (fun _ => rd_assign (ev_t rfl)) ?_
    refine sr_sub [(0, _, _), (5, _, _), (6, _, _), (7, _, _), (8, _, _)] (sub_cons rfl (sub_cons rfl (sub_cons rfl (sub_cons rfl (sub_cons rfl (sub_nil _)))))) ?_
    refine sr_nil (hK7 _ _ ?_)
    refine sc_seq fun K8 hK8 => ?_
    refine sc_text [3, 3, 3] ?_
    refine sr_pu rfl (fun _ => rd_move (ev_t rfl)) ?_
    refine sr_pu rfl (fun _ => rd_move (ev_t rfl)) ?_
    refine sr_pu rfl (fun _ => rd_eq (ev_t rfl) (ev_t rfl)) ?_
    refine sr_sub [(0, _, _), (6, _, _), (7, _, _), (8, _, _), (14, _, _)] (sub_cons rfl (sub_cons rfl (sub_cons rfl (sub_cons rfl (sub_cons rfl (sub_nil _)))))) ?_
    refine sr_nil (hK8 _ _ ?_)
    refine sc_cond (ev_t rfl) (fun h2 => ?_) (fun h2 => ?_)
    · simp only [decide_eq_true_eq] at h2
      refine sc_seq fun K9 hK9 => ?_
      refine sc_text [3] ?_
      refine sr_pu rfl (fun _ => rd_assign ev_c) ?_
      refine sr_sub [(0, _, _), (3, _, _), (6, _, _), (7, _, _), (8, _, _)] (sub_cons rfl (sub_cons rfl (sub_cons rfl (sub_cons rfl (sub_cons rfl (sub_nil _)))))) ?_
      refine sr_nil (hK9 _ _ ?_)
      refine sc_ret (t_ret1 rfl rfl ?_)
      refine ⟨congrArg Value.bool ?_, g⟩
      rw [memK, eq_comm, decide_eq_true_eq, ← h2]; exact List.getElem_mem h1
    · simp only [decide_eq_false_iff_not] at h2
      refine sc_skip (hK6 _ _ ?_)
      refine sc_sub [(0, _, _), (6, _, _), (7, _, _), (8, _, _)] (sub_cons rfl (sub_cons rfl (sub_cons rfl (sub_cons rfl (sub_nil _))))) ?_
      refine sc_text [3, 3] ?_
      refine sr_pu rfl (fun _ => rd_add (ev_t rfl) ev_c (fun _ => by omega)) ?_
      refine sr_pu rfl (fun _ => rd_move (ev_t rfl)) ?_
      refine sr_sub [(8, _, _), (0, _, _), (6, _, _), (7, _, _)] (sub_cons rfl (sub_cons rfl (sub_cons rfl (sub_cons rfl (sub_nil _))))) ?_
      refine sr_nil (fun a ha => ?_)
      refine ⟨i + 1, ha, ⟨⟨h1, fun j h hj => ?_⟩, gl1⟩, by omega⟩
      by_cases e : j = i
      · subst e; exact h2
      · exact hI1.2 j h (by omega)
  · (try simp only [bsimp] at h1)
    refine sc_exit rfl (hK2 _ _ ?_)
    refine sc_sub [] (sub_nil _) ?_
    refine sc_seq fun K10 hK10 => ?_
    refine sc_text [3] ?_
    refine sr_pu rfl (fun _ => rd_assign ev_c) ?_
    refine sr_nil (hK10 _ _ ?_)
    refine sc_ret (t_ret1 rfl rfl ?_)
    refine ⟨congrArg Value.bool ?_, g⟩
    rw [memK, eq_comm, decide_eq_false_iff_not]
    intro hm
    obtain ⟨j, hj, e⟩ := List.getElem_of_mem hm
    simp only [decide_eq_false_iff_not] at h1
    exact hI1.2 j hj (by omega) e
theorem among_ok (l : List Int) (b o c : Nat) (w : World) (hR : RowAt w b o (l.map (Value.int .i64))) (hl : l.length ≤ 1000) : Ret PP fn_syntax_among #[.slice (some ⟨b, o, none⟩) l.length c] w fun v w' => FnV PP (memK l) v w' ∧ G w w' := by
  have g := G.refl w
  refine ret_of_sc (m := 4) func_syntax_among rfl rfl [(0, True, _)] (sub_cons rfl (sub_nil _)) ?_
  refine sc_seq fun K1 hK1 => ?_
  refine sc_text [1, 3] ?_
  refine sr_box rfl (ev_t rfl) rfl ?_
  intro b1 w1 N1
  have l1 := N1.ge g
  have g := g.trans (N1.g)
  have B1 := N1.blk
  refine sr_pu rfl (fun _ => rd_assign ev_c) ?_
  refine sr_sub [(1, _, _), (2, _, _)] (sub_cons rfl (sub_cons rfl (sub_nil _))) ?_
  refine sr_nil (hK1 _ _ ?_)
  refine sc_seq fun K2 hK2 => ?_
  refine sc_text [3, 3] ?_
  refine sr_pu rfl (fun _ => rd_func (args_nil) (args_cons (ev_t rfl) (args_nil))) ?_
  refine sr_pu rfl (fun _ => rd_assign (ev_t rfl)) ?_
  refine sr_sub [(2, _, _)] (sub_cons rfl (sub_nil _)) ?_
  refine sr_nil (hK2 _ _ ?_)
  refine sc_ret (t_ret1 rfl rfl ?_)
  refine ⟨⟨_, _, _, rfl, go_syntax_among_1, fun k w' g' => ?_⟩, g⟩
  exact among1_ok l _ _ _ k w' (B1.grow g') (fun _ => ⟨b, o, rfl, (hR.grow g).grow g'⟩) hl
theorem either1_ok (q r : Int → Bool) (f h : Value) (b1 b2 : Nat) (k : Int) (w : World) (h1 : Blk w b1 ty_func_int_bool [f]) (h2 : Blk w b2 ty_func_int_bool [h]) (hF : FnV PP q f w) (hH : FnV PP r h w) :
    Ret PP fn_syntax_either_1 #[.int .i64 k, .pointer (some ⟨b1, 0, none⟩), .pointer (some ⟨b2, 0, none⟩)] w fun v w' => v = .bool (q k || r k) ∧ G w w' := by
  have g := G.refl w
  obtain ⟨f0, fs0, cs0, rfl, hgo0, hf0⟩ := hF
  obtain ⟨f1, fs1, cs1, rfl, hgo1, hf1⟩ := hH
  refine ret_of_sc (m := 13) func_syntax_either_1 rfl rfl [(0, True, _), (1, True, _), (2, True, _)] (sub_cons rfl (sub_cons rfl (sub_cons rfl (sub_nil _)))) ?_
  refine sc_seq fun K1 hK1 => ?_
  refine sc_text [3] ?_
  refine sr_pu rfl (fun _ => rd_assign ev_c) ?_
  refine sr_nil (hK1 _ _ ?_)
  refine sc_seq fun K2 hK2 => ?_
  refine sc_text [0, 3, 1, 3, 0, 3, 1, 3, 3] ?_
  refine sr_rd rfl (rd_load one_func_int_bool (ev_t rfl) (fun _ => (h1.grow g).at_ rfl)) ?_
  refine sr_pu rfl (fun _ => rd_move (ev_t rfl)) ?_
  refine sr_pure rfl (rc_call hgo0 (ev_t rfl) (args_cons (ev_t rfl) (args_nil)) rfl) (hf0 k _ g) (fun w7 g7 => ?_)
  have g := g.trans (g7)
  refine sr_pu rfl (fun _ => rd_move (ev_t rfl)) ?_
  refine sr_rdg rfl rfl rfl (rd_load one_func_int_bool (ev_t rfl) (fun _ => (h2.grow g).at_ rfl)) ?_
  refine sr_pug rfl rfl rfl (fun _ => rd_move (ev_t rfl)) ?_
  refine sr_pureg rfl rfl rfl (fun _ => (rc_call hgo1 (ev_u rfl id) (args_cons (ev_u rfl id) (args_nil)) rfl)) (fun hc => hf1 k _ g) (fun w11 g11 => ?_)
  have g := g.trans (g11)
  refine sr_pu rfl (fun _ => rd_pick_or (ev_t rfl) (ev_u rfl id)) ?_
  refine sr_pu rfl (fun _ => rd_assign (ev_t rfl)) ?_
  refine sr_sub [(4, _, _)] (sub_cons rfl (sub_nil _)) ?_
  refine sr_nil (hK2 _ _ ?_)
  refine sc_ret (t_ret1 rfl rfl ?_)
  exact ⟨rfl, g⟩
theorem either_ok (q : Int → Bool) (l : List Int) (f : Value) (b o c : Nat) (w : World) (hF : FnV PP q f w) (hR : RowAt w b o (l.map (Value.int .i64))) (hl : l.length ≤ 1000) : Ret PP fn_syntax_either #[f, .slice (some ⟨b, o, none⟩) l.length c] w fun v w' => FnV PP (fun k => q k || memK l k) v w' ∧ G w w' := by
  have g := G.refl w
  have hF0 := hF
  obtain ⟨f0, fs0, cs0, rfl, hgo0, hf0⟩ := hF
  refine ret_of_sc (m := 9) func_syntax_either rfl rfl [(0, True, _), (1, True, _)] (sub_cons rfl (sub_cons rfl (sub_nil _))) ?_
  refine sc_seq fun K1 hK1 => ?_
  refine sc_text [1, 3] ?_
  refine sr_box rfl (ev_t rfl) rfl ?_
  intro b2 w2 N2
  have l2 := N2.ge g
  have g := g.trans (N2.g)
  have B2 := N2.blk
  refine sr_pu rfl (fun _ => rd_assign ev_c) ?_
  refine sr_sub [(1, _, _), (2, _, _), (4, _, _)] (sub_cons rfl (sub_cons rfl (sub_cons rfl (sub_nil _)))) ?_
  refine sr_nil (hK1 _ _ ?_)
  refine sc_seq fun K2 hK2 => ?_
  refine sc_text [3, 1, 1, 2] ?_
  refine sr_pu rfl (fun _ => rd_move (ev_t rfl)) ?_
  refine sr_call rfl (rc_call go_syntax_among ev_f (args_cons (ev_t rfl) (args_nil)) rfl) (among_ok l _ _ _ _ (hR.grow g) hl) ?_
  rintro v7 w7 ⟨hA, g7⟩
  refine ⟨fun _ => g7, ?_⟩
  have g := g.trans g7
  have hA0 := hA
  obtain ⟨f1, fs1, cs1, rfl, hgo1, hf1⟩ := hA
  replace B2 := B2.grow (g7)
  have gm := G.refl w7
  refine sr_alloc rfl ze_func_int_bool rfl ?_
  intro b5 w5 N5
  have x5_2 := N5.ne B2
  have l5 := N5.ge g
  try have l5_gm := N5.ge gm
  have g := g.trans (N5.g)
  try have gm := gm.trans (N5.g)
  replace B2 := B2.grow (N5.g)
  have B5 := N5.blk
  refine sr_store_all rfl sz_func_int_bool (ev_t rfl) (ev_t rfl) rfl rfl B5 rfl rfl ?_
  intro wS1 hgS1 hzS1
  clear B5
  intro B5
  replace B2 := B2.keep hgS1 (by intro h; injection h with h; omega)
  have g := g_only g hgS1 (by intro k hk; injection hk with hk; omega)
  first | replace gm := g_only gm hgS1 (by intro k hk; injection hk with hk; omega) | clear gm | skip
  refine sr_sub [(2, _, _), (4, _, _), (5, _, _)] (sub_cons rfl (sub_cons rfl (sub_cons rfl (sub_nil _)))) ?_
  refine sr_nil (hK2 _ _ ?_)
  refine sc_seq fun K3 hK3 => ?_
  refine sc_text [3, 3] ?_
  refine sr_pu rfl (fun _ => rd_func (args_nil) (args_cons (ev_t rfl) (args_cons (ev_t rfl) (args_nil)))) ?_
  refine sr_pu rfl (fun _ => rd_assign (ev_t rfl)) ?_
  refine sr_sub [(4, _, _)] (sub_cons rfl (sub_nil _)) ?_
  refine sr_nil (hK3 _ _ ?_)
  refine sc_ret (t_ret1 rfl rfl ?_)
  refine ⟨⟨_, _, _, rfl, go_syntax_either_1, fun k w' g' => ?_⟩, g⟩
  exact either1_ok q (memK l) _ _ _ _ k w' (B2.grow g') (B5.grow g') ((hF0.grow g).grow g') ((hA0.grow gm).grow g')
end Go.Rk
