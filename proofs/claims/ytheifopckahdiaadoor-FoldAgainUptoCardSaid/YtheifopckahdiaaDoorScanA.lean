/- The scanner's small functions. Conditions: none. -/
import Derived.Test.YtheifopckahdiaaDoorFacts
namespace Go.Rk
open Go
theorem bsimp : True := trivial
def letterB (c : Int) : Bool := (decide (97 ≤ c) && decide (c ≤ 122) || decide (65 ≤ c) && decide (c ≤ 90)) || decide (c = 95)
def digitB (c : Int) : Bool := decide (48 ≤ c) && decide (c ≤ 57)
theorem letter_ok (c : Int) (w : World) : Ret PP fn_scan_letter #[.int .u8 c] w fun v w' => v = .bool (letterB c) ∧ G w w' := by
  have g := G.refl w
  refine ret_of_sc (m := 21) func_scan_letter rfl rfl [(0, True, _)] (sub_cons rfl (sub_nil _)) ?_
  refine sc_seq fun K1 hK1 => ?_
  refine sc_text [3] ?_
  refine sr_pu rfl (fun _ => rd_assign ev_c) ?_
  refine sr_nil (hK1 _ _ ?_)
  refine sc_seq fun K2 hK2 => ?_
  refine sc_text [3, 3, 3, 3, 3, 3, 3, 3, 3, 3, 3, 3, 3, 3, 3, 3, 3, 3, 3] ?_
  refine sr_pu rfl (fun _ => rd_move (ev_t rfl)) ?_
  refine sr_pu rfl (fun _ => rd_ge (ev_t rfl) ev_c) ?_
  refine sr_pu rfl (fun _ => rd_move (ev_t rfl)) ?_
  refine sr_pug rfl rfl rfl (fun _ => rd_move (ev_t rfl)) ?_
  refine sr_pug rfl rfl rfl (fun _ => rd_le (ev_u rfl id) ev_c) ?_
  refine sr_pu rfl (fun _ => rd_pick_and (ev_t rfl) (ev_u rfl id)) ?_
  refine sr_pu rfl (fun _ => rd_move (ev_t rfl)) ?_
  refine sr_pug rfl rfl rfl (fun _ => rd_move (ev_t rfl)) ?_
  refine sr_pug rfl rfl rfl (fun _ => rd_ge (ev_u rfl id) ev_c) ?_
  refine sr_pug rfl rfl rfl (fun _ => rd_move (ev_u rfl id)) ?_
  refine sr_pug rfl rfl rfl (fun _ => rd_move (ev_t rfl)) ?_
  refine sr_pug rfl rfl rfl (fun _ => rd_le (ev_u rfl id) ev_c) ?_
  refine sr_pug rfl rfl rfl (fun _ => rd_pick_and (ev_u rfl id) (ev_u rfl id)) ?_
  refine sr_pu rfl (fun _ => rd_pick_or (ev_t rfl) (ev_u rfl id)) ?_
  refine sr_pu rfl (fun _ => rd_move (ev_t rfl)) ?_
  refine sr_pug rfl rfl rfl (fun _ => rd_move (ev_t rfl)) ?_
  refine sr_pug rfl rfl rfl (fun _ => rd_eq (ev_u rfl id) ev_c) ?_
  refine sr_pu rfl (fun _ => rd_pick_or (ev_t rfl) (ev_u rfl id)) ?_
  refine sr_pu rfl (fun _ => rd_assign (ev_t rfl)) ?_
  refine sr_sub [(2, _, _)] (sub_cons rfl (sub_nil _)) ?_
  refine sr_nil (hK2 _ _ ?_)
  refine sc_ret (t_ret1 rfl rfl ?_)
  exact ⟨rfl, g⟩
theorem digit_ok (c : Int) (w : World) : Ret PP fn_scan_digit #[.int .u8 c] w fun v w' => v = .bool (digitB c) ∧ G w w' := by
  have g := G.refl w
  refine ret_of_sc (m := 9) func_scan_digit rfl rfl [(0, True, _)] (sub_cons rfl (sub_nil _)) ?_
  refine sc_seq fun K1 hK1 => ?_
  refine sc_text [3] ?_
  refine sr_pu rfl (fun _ => rd_assign ev_c) ?_
  refine sr_nil (hK1 _ _ ?_)
  refine sc_seq fun K2 hK2 => ?_
  refine sc_text [3, 3, 3, 3, 3, 3, 3] ?_
  refine sr_pu rfl (fun _ => rd_move (ev_t rfl)) ?_
  refine sr_pu rfl (fun _ => rd_ge (ev_t rfl) ev_c) ?_
  refine sr_pu rfl (fun _ => rd_move (ev_t rfl)) ?_
  refine sr_pug rfl rfl rfl (fun _ => rd_move (ev_t rfl)) ?_
  refine sr_pug rfl rfl rfl (fun _ => rd_le (ev_u rfl id) ev_c) ?_
  refine sr_pu rfl (fun _ => rd_pick_and (ev_t rfl) (ev_u rfl id)) ?_
  refine sr_pu rfl (fun _ => rd_assign (ev_t rfl)) ?_
  refine sr_sub [(2, _, _)] (sub_cons rfl (sub_nil _)) ?_
  refine sr_nil (hK2 _ _ ?_)
  refine sc_ret (t_ret1 rfl rfl ?_)
  exact ⟨rfl, g⟩
theorem notlf_ok (c : Int) (w : World) : Ret PP fn_scan_scanner_next_1 #[.int .u8 c] w fun v w' => v = .bool (!decide (c = 10)) ∧ G w w' := by
  have g := G.refl w
  refine ret_of_sc (m := 5) func_scan_scanner_next_1 rfl rfl [(0, True, _)] (sub_cons rfl (sub_nil _)) ?_
  refine sc_seq fun K1 hK1 => ?_
  refine sc_text [3] ?_
  refine sr_pu rfl (fun _ => rd_assign ev_c) ?_
  refine sr_nil (hK1 _ _ ?_)
  refine sc_seq fun K2 hK2 => ?_
  refine sc_text [3, 3, 3] ?_
  refine sr_pu rfl (fun _ => rd_move (ev_t rfl)) ?_
  refine sr_pu rfl (fun _ => rd_ne (ev_t rfl) ev_c) ?_
  refine sr_pu rfl (fun _ => rd_assign (ev_t rfl)) ?_
  refine sr_sub [(2, _, _)] (sub_cons rfl (sub_nil _)) ?_
  refine sr_nil (hK2 _ _ ?_)
  refine sc_ret (t_ret1 rfl rfl ?_)
  exact ⟨rfl, g⟩
theorem alnum_ok (c : Int) (w : World) : Ret PP fn_scan_scanner_next_2 #[.int .u8 c] w fun v w' => v = .bool (letterB c || digitB c) ∧ G w w' := by
  have g := G.refl w
  refine ret_of_sc (m := 9) func_scan_scanner_next_2 rfl rfl [(0, True, _)] (sub_cons rfl (sub_nil _)) ?_
  refine sc_seq fun K1 hK1 => ?_
  refine sc_text [3] ?_
  refine sr_pu rfl (fun _ => rd_assign ev_c) ?_
  refine sr_nil (hK1 _ _ ?_)
  refine sc_seq fun K2 hK2 => ?_
  refine sc_text [3, 1, 3, 3, 1, 3, 3] ?_
  refine sr_pu rfl (fun _ => rd_move (ev_t rfl)) ?_
  refine sr_pure rfl (rc_call go_scan_letter ev_f (args_cons (ev_t rfl) (args_nil)) rfl) (letter_ok _ _) (fun w4 g4 => ?_)
  have g := g.trans (g4)
  refine sr_pu rfl (fun _ => rd_move (ev_t rfl)) ?_
  refine sr_pug rfl rfl rfl (fun _ => rd_move (ev_t rfl)) ?_
  refine sr_pureg rfl rfl rfl (fun _ => (rc_call go_scan_digit ev_f (args_cons (ev_u rfl id) (args_nil)) rfl)) (fun hc => digit_ok _ _) (fun w7 g7 => ?_)
  have g := g.trans (g7)
  refine sr_pu rfl (fun _ => rd_pick_or (ev_t rfl) (ev_u rfl id)) ?_
  refine sr_pu rfl (fun _ => rd_assign (ev_t rfl)) ?_
  refine sr_sub [(2, _, _)] (sub_cons rfl (sub_nil _)) ?_
  refine sr_nil (hK2 _ _ ?_)
  refine sc_ret (t_ret1 rfl rfl ?_)
  exact ⟨rfl, g⟩
def kws : List (List UInt8) := [[116, 121, 112, 101], [115, 116, 114, 117, 99, 116], [118, 97, 114], [102, 117, 110, 99], [105, 102], [101, 108, 115, 101], [102, 111, 114], [114, 101, 116, 117, 114, 110], [103, 111], [100, 101, 102, 101, 114], [115, 101, 108, 101, 99, 116], [99, 97, 115, 101], [100, 101, 102, 97, 117, 108, 116], [99, 104, 97, 110], [110, 101, 119], [109, 97, 107, 101], [108, 101, 110], [116, 114, 117, 101], [102, 97, 108, 115, 101], [110, 105, 108], [112, 114, 105, 110, 116], [99, 108, 111, 115, 101], [105, 110, 116], [98, 111, 111, 108], [109, 117, 116, 101, 120], [114, 119, 109, 117, 116, 101, 120], [103, 114, 111, 117, 112], [111, 110, 99, 101], [97, 116, 111, 109, 105, 99]]
def endw : List (List UInt8) := [[116, 114, 117, 101], [102, 97, 108, 115, 101], [110, 105, 108], [114, 101, 116, 117, 114, 110], [105, 110, 116], [98, 111, 111, 108], [109, 117, 116, 101, 120], [114, 119, 109, 117, 116, 101, 120], [103, 114, 111, 117, 112], [111, 110, 99, 101], [97, 116, 111, 109, 105, 99], [41], [93], [125]]
def inB (l : List (List UInt8)) (s : List UInt8) : Bool := l.any fun k => decide (s = k)
theorem keyword_ok (s : List UInt8) (w : World) : Ret PP fn_scan_Keyword #[Str s] w fun v w' => v = .bool (inB kws s) ∧ G w w' := by
  have g := G.refl w
  refine ret_of_sc (m := 34) func_scan_Keyword rfl rfl [(0, True, _)] (sub_cons rfl (sub_nil _)) ?_
  refine sc_seq fun K1 hK1 => ?_
  refine sc_text [3] ?_
  refine sr_pu rfl (fun _ => rd_assign ev_c) ?_
  refine sr_nil (hK1 _ _ ?_)
  refine sc_seq fun K2 hK2 => ?_
  refine sc_seq fun K3 hK3 => ?_
  refine sc_text [3] ?_
  refine sr_pu rfl (fun _ => rd_move (ev_t rfl)) ?_
  refine sr_sub [(2, _, _), (3, _, _)] (sub_cons rfl (sub_cons rfl (sub_nil _))) ?_
  refine sr_nil (hK3 _ _ ?_)
  refine sc_block ?_
  refine sc_seq fun K4 hK4 => ?_
  refine sc_seq fun K5 hK5 => ?_
  refine sc_text [3, 3] ?_
  refine sr_pu rfl (fun _ => rd_seq (ev_t rfl) ev_c) ?_
  refine sr_pu rfl (fun _ => rd_assign (ev_t rfl)) ?_
  refine sr_sub [(2, _, _), (3, _, _), (4, _, _)] (sub_cons rfl (sub_cons rfl (sub_cons rfl (sub_nil _)))) ?_
  refine sr_nil (hK5 _ _ ?_)
  refine' sc_or [(2, _, _)] (sub_cons rfl (sub_cons rfl (sub_nil _))) rfl (fun hb1 => ?y1) (hK4 _ _ ?n1)
  case y1 =>
   refine sc_seq fun K6 hK6 => ?_
   refine sc_text [3, 3] ?_
   refine sr_pu rfl (fun _ => rd_seq (ev_t rfl) ev_c) ?_
   refine sr_pu rfl (fun _ => rd_assign (ev_t rfl)) ?_
   refine sr_sub [(2, _, _), (3, _, _), (4, _, _)] (sub_cons rfl (sub_cons rfl (sub_cons rfl (sub_nil _)))) ?_
   refine sr_nil (hK6 _ _ ?_)
   refine' sc_or [(2, _, _)] (sub_cons rfl (sub_cons rfl (sub_nil _))) rfl (fun hb2 => ?y2) (fun a ha => ⟨ha, rfl⟩)
   case y2 =>
    refine sc_seq fun K7 hK7 => ?_
    refine sc_text [3, 3] ?_
    refine sr_pu rfl (fun _ => rd_seq (ev_t rfl) ev_c) ?_
    refine sr_pu rfl (fun _ => rd_assign (ev_t rfl)) ?_
    refine sr_sub [(2, _, _), (3, _, _), (4, _, _)] (sub_cons rfl (sub_cons rfl (sub_cons rfl (sub_nil _)))) ?_
    refine sr_nil (hK7 _ _ ?_)
    refine' sc_or [(2, _, _)] (sub_cons rfl (sub_cons rfl (sub_nil _))) rfl (fun hb3 => ?y3) (fun a ha => ⟨ha, rfl⟩)
    case y3 =>
     refine sc_seq fun K8 hK8 => ?_
     refine sc_text [3, 3] ?_
     refine sr_pu rfl (fun _ => rd_seq (ev_t rfl) ev_c) ?_
     refine sr_pu rfl (fun _ => rd_assign (ev_t rfl)) ?_
     refine sr_sub [(2, _, _), (3, _, _), (4, _, _)] (sub_cons rfl (sub_cons rfl (sub_cons rfl (sub_nil _)))) ?_
     refine sr_nil (hK8 _ _ ?_)
     refine' sc_or [(2, _, _)] (sub_cons rfl (sub_cons rfl (sub_nil _))) rfl (fun hb4 => ?y4) (fun a ha => ⟨ha, rfl⟩)
     case y4 =>
      refine sc_seq fun K9 hK9 => ?_
      refine sc_text [3, 3] ?_
      refine sr_pu rfl (fun _ => rd_seq (ev_t rfl) ev_c) ?_
      refine sr_pu rfl (fun _ => rd_assign (ev_t rfl)) ?_
      refine sr_sub [(2, _, _), (3, _, _), (4, _, _)] (sub_cons rfl (sub_cons rfl (sub_cons rfl (sub_nil _)))) ?_
      refine sr_nil (hK9 _ _ ?_)
      refine' sc_or [(2, _, _)] (sub_cons rfl (sub_cons rfl (sub_nil _))) rfl (fun hb5 => ?y5) (fun a ha => ⟨ha, rfl⟩)
      case y5 =>
       refine sc_seq fun K10 hK10 => ?_
       refine sc_text [3, 3] ?_
       refine sr_pu rfl (fun _ => rd_seq (ev_t rfl) ev_c) ?_
       refine sr_pu rfl (fun _ => rd_assign (ev_t rfl)) ?_
       refine sr_sub [(2, _, _), (3, _, _), (4, _, _)] (sub_cons rfl (sub_cons rfl (sub_cons rfl (sub_nil _)))) ?_
       refine sr_nil (hK10 _ _ ?_)
       refine' sc_or [(2, _, _)] (sub_cons rfl (sub_cons rfl (sub_nil _))) rfl (fun hb6 => ?y6) (fun a ha => ⟨ha, rfl⟩)
       case y6 =>
        refine sc_seq fun K11 hK11 => ?_
        refine sc_text [3, 3] ?_
        refine sr_pu rfl (fun _ => rd_seq (ev_t rfl) ev_c) ?_
        refine sr_pu rfl (fun _ => rd_assign (ev_t rfl)) ?_
        refine sr_sub [(2, _, _), (3, _, _), (4, _, _)] (sub_cons rfl (sub_cons rfl (sub_cons rfl (sub_nil _)))) ?_
        refine sr_nil (hK11 _ _ ?_)
        refine' sc_or [(2, _, _)] (sub_cons rfl (sub_cons rfl (sub_nil _))) rfl (fun hb7 => ?y7) (fun a ha => ⟨ha, rfl⟩)
        case y7 =>
         refine sc_seq fun K12 hK12 => ?_
         refine sc_text [3, 3] ?_
         refine sr_pu rfl (fun _ => rd_seq (ev_t rfl) ev_c) ?_
         refine sr_pu rfl (fun _ => rd_assign (ev_t rfl)) ?_
         refine sr_sub [(2, _, _), (3, _, _), (4, _, _)] (sub_cons rfl (sub_cons rfl (sub_cons rfl (sub_nil _)))) ?_
         refine sr_nil (hK12 _ _ ?_)
         refine' sc_or [(2, _, _)] (sub_cons rfl (sub_cons rfl (sub_nil _))) rfl (fun hb8 => ?y8) (fun a ha => ⟨ha, rfl⟩)
         case y8 =>
          refine sc_seq fun K13 hK13 => ?_
          refine sc_text [3, 3] ?_
          refine sr_pu rfl (fun _ => rd_seq (ev_t rfl) ev_c) ?_
          refine sr_pu rfl (fun _ => rd_assign (ev_t rfl)) ?_
          refine sr_sub [(2, _, _), (3, _, _), (4, _, _)] (sub_cons rfl (sub_cons rfl (sub_cons rfl (sub_nil _)))) ?_
          refine sr_nil (hK13 _ _ ?_)
          refine' sc_or [(2, _, _)] (sub_cons rfl (sub_cons rfl (sub_nil _))) rfl (fun hb9 => ?y9) (fun a ha => ⟨ha, rfl⟩)
          case y9 =>
           refine sc_seq fun K14 hK14 => ?_
           refine sc_text [3, 3] ?_
           refine sr_pu rfl (fun _ => rd_seq (ev_t rfl) ev_c) ?_
           refine sr_pu rfl (fun _ => rd_assign (ev_t rfl)) ?_
           refine sr_sub [(2, _, _), (3, _, _), (4, _, _)] (sub_cons rfl (sub_cons rfl (sub_cons rfl (sub_nil _)))) ?_
           refine sr_nil (hK14 _ _ ?_)
           refine' sc_or [(2, _, _)] (sub_cons rfl (sub_cons rfl (sub_nil _))) rfl (fun hb10 => ?y10) (fun a ha => ⟨ha, rfl⟩)
           case y10 =>
            refine sc_seq fun K15 hK15 => ?_
            refine sc_text [3, 3] ?_
            refine sr_pu rfl (fun _ => rd_seq (ev_t rfl) ev_c) ?_
            refine sr_pu rfl (fun _ => rd_assign (ev_t rfl)) ?_
            refine sr_sub [(2, _, _), (3, _, _), (4, _, _)] (sub_cons rfl (sub_cons rfl (sub_cons rfl (sub_nil _)))) ?_
            refine sr_nil (hK15 _ _ ?_)
            refine' sc_or [(2, _, _)] (sub_cons rfl (sub_cons rfl (sub_nil _))) rfl (fun hb11 => ?y11) (fun a ha => ⟨ha, rfl⟩)
            case y11 =>
             refine sc_seq fun K16 hK16 => ?_
             refine sc_text [3, 3] ?_
             refine sr_pu rfl (fun _ => rd_seq (ev_t rfl) ev_c) ?_
             refine sr_pu rfl (fun _ => rd_assign (ev_t rfl)) ?_
             refine sr_sub [(2, _, _), (3, _, _), (4, _, _)] (sub_cons rfl (sub_cons rfl (sub_cons rfl (sub_nil _)))) ?_
             refine sr_nil (hK16 _ _ ?_)
             refine' sc_or [(2, _, _)] (sub_cons rfl (sub_cons rfl (sub_nil _))) rfl (fun hb12 => ?y12) (fun a ha => ⟨ha, rfl⟩)
             case y12 =>
              refine sc_seq fun K17 hK17 => ?_
              refine sc_text [3, 3] ?_
              refine sr_pu rfl (fun _ => rd_seq (ev_t rfl) ev_c) ?_
              refine sr_pu rfl (fun _ => rd_assign (ev_t rfl)) ?_
              refine sr_sub [(2, _, _), (3, _, _), (4, _, _)] (sub_cons rfl (sub_cons rfl (sub_cons rfl (sub_nil _)))) ?_
              refine sr_nil (hK17 _ _ ?_)
              refine' sc_or [(2, _, _)] (sub_cons rfl (sub_cons rfl (sub_nil _))) rfl (fun hb13 => ?y13) (fun a ha => ⟨ha, rfl⟩)
              case y13 =>
               refine sc_seq fun K18 hK18 => ?_
               refine sc_text [3, 3] ?_
               refine sr_pu rfl (fun _ => rd_seq (ev_t rfl) ev_c) ?_
               refine sr_pu rfl (fun _ => rd_assign (ev_t rfl)) ?_
               refine sr_sub [(2, _, _), (3, _, _), (4, _, _)] (sub_cons rfl (sub_cons rfl (sub_cons rfl (sub_nil _)))) ?_
               refine sr_nil (hK18 _ _ ?_)
               refine' sc_or [(2, _, _)] (sub_cons rfl (sub_cons rfl (sub_nil _))) rfl (fun hb14 => ?y14) (fun a ha => ⟨ha, rfl⟩)
               case y14 =>
                refine sc_seq fun K19 hK19 => ?_
                refine sc_text [3, 3] ?_
                refine sr_pu rfl (fun _ => rd_seq (ev_t rfl) ev_c) ?_
                refine sr_pu rfl (fun _ => rd_assign (ev_t rfl)) ?_
                refine sr_sub [(2, _, _), (3, _, _), (4, _, _)] (sub_cons rfl (sub_cons rfl (sub_cons rfl (sub_nil _)))) ?_
                refine sr_nil (hK19 _ _ ?_)
                refine' sc_or [(2, _, _)] (sub_cons rfl (sub_cons rfl (sub_nil _))) rfl (fun hb15 => ?y15) (fun a ha => ⟨ha, rfl⟩)
                case y15 =>
                 refine sc_seq fun K20 hK20 => ?_
                 refine sc_text [3, 3] ?_
                 refine sr_pu rfl (fun _ => rd_seq (ev_t rfl) ev_c) ?_
                 refine sr_pu rfl (fun _ => rd_assign (ev_t rfl)) ?_
                 refine sr_sub [(2, _, _), (3, _, _), (4, _, _)] (sub_cons rfl (sub_cons rfl (sub_cons rfl (sub_nil _)))) ?_
                 refine sr_nil (hK20 _ _ ?_)
                 refine' sc_or [(2, _, _)] (sub_cons rfl (sub_cons rfl (sub_nil _))) rfl (fun hb16 => ?y16) (fun a ha => ⟨ha, rfl⟩)
                 case y16 =>
                  refine sc_seq fun K21 hK21 => ?_
                  refine sc_text [3, 3] ?_
                  refine sr_pu rfl (fun _ => rd_seq (ev_t rfl) ev_c) ?_
                  refine sr_pu rfl (fun _ => rd_assign (ev_t rfl)) ?_
                  refine sr_sub [(2, _, _), (3, _, _), (4, _, _)] (sub_cons rfl (sub_cons rfl (sub_cons rfl (sub_nil _)))) ?_
                  refine sr_nil (hK21 _ _ ?_)
                  refine' sc_or [(2, _, _)] (sub_cons rfl (sub_cons rfl (sub_nil _))) rfl (fun hb17 => ?y17) (fun a ha => ⟨ha, rfl⟩)
                  case y17 =>
                   refine sc_seq fun K22 hK22 => ?_
                   refine sc_text [3, 3] ?_
                   refine sr_pu rfl (fun _ => rd_seq (ev_t rfl) ev_c) ?_
                   refine sr_pu rfl (fun _ => rd_assign (ev_t rfl)) ?_
                   refine sr_sub [(2, _, _), (3, _, _), (4, _, _)] (sub_cons rfl (sub_cons rfl (sub_cons rfl (sub_nil _)))) ?_
                   refine sr_nil (hK22 _ _ ?_)
                   refine' sc_or [(2, _, _)] (sub_cons rfl (sub_cons rfl (sub_nil _))) rfl (fun hb18 => ?y18) (fun a ha => ⟨ha, rfl⟩)
                   case y18 =>
                    refine sc_seq fun K23 hK23 => ?_
                    refine sc_text [3, 3] ?_
                    refine sr_pu rfl (fun _ => rd_seq (ev_t rfl) ev_c) ?_
                    refine sr_pu rfl (fun _ => rd_assign (ev_t rfl)) ?_
                    refine sr_sub [(2, _, _), (3, _, _), (4, _, _)] (sub_cons rfl (sub_cons rfl (sub_cons rfl (sub_nil _)))) ?_
                    refine sr_nil (hK23 _ _ ?_)
                    refine' sc_or [(2, _, _)] (sub_cons rfl (sub_cons rfl (sub_nil _))) rfl (fun hb19 => ?y19) (fun a ha => ⟨ha, rfl⟩)
                    case y19 =>
                     refine sc_seq fun K24 hK24 => ?_
                     refine sc_text [3, 3] ?_
                     refine sr_pu rfl (fun _ => rd_seq (ev_t rfl) ev_c) ?_
                     refine sr_pu rfl (fun _ => rd_assign (ev_t rfl)) ?_
                     refine sr_sub [(2, _, _), (3, _, _), (4, _, _)] (sub_cons rfl (sub_cons rfl (sub_cons rfl (sub_nil _)))) ?_
                     refine sr_nil (hK24 _ _ ?_)
                     refine' sc_or [(2, _, _)] (sub_cons rfl (sub_cons rfl (sub_nil _))) rfl (fun hb20 => ?y20) (fun a ha => ⟨ha, rfl⟩)
                     case y20 =>
                      refine sc_seq fun K25 hK25 => ?_
                      refine sc_text [3, 3] ?_
                      refine sr_pu rfl (fun _ => rd_seq (ev_t rfl) ev_c) ?_
                      refine sr_pu rfl (fun _ => rd_assign (ev_t rfl)) ?_
                      refine sr_sub [(2, _, _), (3, _, _), (4, _, _)] (sub_cons rfl (sub_cons rfl (sub_cons rfl (sub_nil _)))) ?_
                      refine sr_nil (hK25 _ _ ?_)
                      refine' sc_or [(2, _, _)] (sub_cons rfl (sub_cons rfl (sub_nil _))) rfl (fun hb21 => ?y21) (fun a ha => ⟨ha, rfl⟩)
                      case y21 =>
                       refine sc_seq fun K26 hK26 => ?_
                       refine sc_text [3, 3] ?_
                       refine sr_pu rfl (fun _ => rd_seq (ev_t rfl) ev_c) ?_
                       refine sr_pu rfl (fun _ => rd_assign (ev_t rfl)) ?_
                       refine sr_sub [(2, _, _), (3, _, _), (4, _, _)] (sub_cons rfl (sub_cons rfl (sub_cons rfl (sub_nil _)))) ?_
                       refine sr_nil (hK26 _ _ ?_)
                       refine' sc_or [(2, _, _)] (sub_cons rfl (sub_cons rfl (sub_nil _))) rfl (fun hb22 => ?y22) (fun a ha => ⟨ha, rfl⟩)
                       case y22 =>
                        refine sc_seq fun K27 hK27 => ?_
                        refine sc_text [3, 3] ?_
                        refine sr_pu rfl (fun _ => rd_seq (ev_t rfl) ev_c) ?_
                        refine sr_pu rfl (fun _ => rd_assign (ev_t rfl)) ?_
                        refine sr_sub [(2, _, _), (3, _, _), (4, _, _)] (sub_cons rfl (sub_cons rfl (sub_cons rfl (sub_nil _)))) ?_
                        refine sr_nil (hK27 _ _ ?_)
                        refine' sc_or [(2, _, _)] (sub_cons rfl (sub_cons rfl (sub_nil _))) rfl (fun hb23 => ?y23) (fun a ha => ⟨ha, rfl⟩)
                        case y23 =>
                         refine sc_seq fun K28 hK28 => ?_
                         refine sc_text [3, 3] ?_
                         refine sr_pu rfl (fun _ => rd_seq (ev_t rfl) ev_c) ?_
                         refine sr_pu rfl (fun _ => rd_assign (ev_t rfl)) ?_
                         refine sr_sub [(2, _, _), (3, _, _), (4, _, _)] (sub_cons rfl (sub_cons rfl (sub_cons rfl (sub_nil _)))) ?_
                         refine sr_nil (hK28 _ _ ?_)
                         refine' sc_or [(2, _, _)] (sub_cons rfl (sub_cons rfl (sub_nil _))) rfl (fun hb24 => ?y24) (fun a ha => ⟨ha, rfl⟩)
                         case y24 =>
                          refine sc_seq fun K29 hK29 => ?_
                          refine sc_text [3, 3] ?_
                          refine sr_pu rfl (fun _ => rd_seq (ev_t rfl) ev_c) ?_
                          refine sr_pu rfl (fun _ => rd_assign (ev_t rfl)) ?_
                          refine sr_sub [(2, _, _), (3, _, _), (4, _, _)] (sub_cons rfl (sub_cons rfl (sub_cons rfl (sub_nil _)))) ?_
                          refine sr_nil (hK29 _ _ ?_)
                          refine' sc_or [(2, _, _)] (sub_cons rfl (sub_cons rfl (sub_nil _))) rfl (fun hb25 => ?y25) (fun a ha => ⟨ha, rfl⟩)
                          case y25 =>
                           refine sc_seq fun K30 hK30 => ?_
                           refine sc_text [3, 3] ?_
                           refine sr_pu rfl (fun _ => rd_seq (ev_t rfl) ev_c) ?_
                           refine sr_pu rfl (fun _ => rd_assign (ev_t rfl)) ?_
                           refine sr_sub [(2, _, _), (3, _, _), (4, _, _)] (sub_cons rfl (sub_cons rfl (sub_cons rfl (sub_nil _)))) ?_
                           refine sr_nil (hK30 _ _ ?_)
                           refine' sc_or [(2, _, _)] (sub_cons rfl (sub_cons rfl (sub_nil _))) rfl (fun hb26 => ?y26) (fun a ha => ⟨ha, rfl⟩)
                           case y26 =>
                            refine sc_seq fun K31 hK31 => ?_
                            refine sc_text [3, 3] ?_
                            refine sr_pu rfl (fun _ => rd_seq (ev_t rfl) ev_c) ?_
                            refine sr_pu rfl (fun _ => rd_assign (ev_t rfl)) ?_
                            refine sr_sub [(2, _, _), (3, _, _), (4, _, _)] (sub_cons rfl (sub_cons rfl (sub_cons rfl (sub_nil _)))) ?_
                            refine sr_nil (hK31 _ _ ?_)
                            refine' sc_or [(2, _, _)] (sub_cons rfl (sub_cons rfl (sub_nil _))) rfl (fun hb27 => ?y27) (fun a ha => ⟨ha, rfl⟩)
                            case y27 =>
                             refine sc_seq fun K32 hK32 => ?_
                             refine sc_text [3, 3] ?_
                             refine sr_pu rfl (fun _ => rd_seq (ev_t rfl) ev_c) ?_
                             refine sr_pu rfl (fun _ => rd_assign (ev_t rfl)) ?_
                             refine sr_sub [(2, _, _), (3, _, _), (4, _, _)] (sub_cons rfl (sub_cons rfl (sub_cons rfl (sub_nil _)))) ?_
                             refine sr_nil (hK32 _ _ ?_)
                             refine' sc_or [(2, _, _)] (sub_cons rfl (sub_cons rfl (sub_nil _))) rfl (fun hb28 => ?y28) (fun a ha => ⟨ha, rfl⟩)
                             case y28 =>
                              refine sc_text [3, 3] ?_
                              refine sr_pu rfl (fun _ => rd_seq (ev_t rfl) ev_c) ?_
                              refine sr_pu rfl (fun _ => rd_assign (ev_t rfl)) ?_
                              refine sr_sub [(4, _, _), (2, _, _)] (sub_cons rfl (sub_cons rfl (sub_nil _))) ?_
                              exact sr_nil (fun a ha => ⟨ha, rfl⟩)
  case n1 =>
   refine sc_cond (ev_t rfl) (fun h29 => ?_) (fun h29 => ?_)
   · (try simp only [bsimp] at h29)
     refine sc_seq fun K33 hK33 => ?_
     refine sc_text [3] ?_
     refine sr_pu rfl (fun _ => rd_assign ev_c) ?_
     refine sr_sub [(2, _, _)] (sub_cons rfl (sub_nil _)) ?_
     refine sr_nil (hK33 _ _ ?_)
     refine sc_ret (t_ret1 rfl rfl ?_)
     refine ⟨?_, g⟩; simp only [inB, kws, List.any_cons, List.any_nil, Bool.or_false]; rw [h29]
   · (try simp only [bsimp] at h29)
     refine sc_skip (hK2 _ _ ?_)
     refine sc_sub [(2, _, _)] (sub_cons rfl (sub_nil _)) ?_
     refine sc_seq fun K34 hK34 => ?_
     refine sc_text [3] ?_
     refine sr_pu rfl (fun _ => rd_assign ev_c) ?_
     refine sr_nil (hK34 _ _ ?_)
     refine sc_ret (t_ret1 rfl rfl ?_)
     refine ⟨?_, g⟩; simp only [inB, kws, List.any_cons, List.any_nil, Bool.or_false]; rw [h29]
theorem ending_ok (s : List UInt8) (w : World) : Ret PP fn_scan_ending #[Str s] w fun v w' => v = .bool (inB endw s) ∧ G w w' := by
  have g := G.refl w
  refine ret_of_sc (m := 19) func_scan_ending rfl rfl [(0, True, _)] (sub_cons rfl (sub_nil _)) ?_
  refine sc_seq fun K1 hK1 => ?_
  refine sc_text [3] ?_
  refine sr_pu rfl (fun _ => rd_assign ev_c) ?_
  refine sr_nil (hK1 _ _ ?_)
  refine sc_seq fun K2 hK2 => ?_
  refine sc_seq fun K3 hK3 => ?_
  refine sc_text [3] ?_
  refine sr_pu rfl (fun _ => rd_move (ev_t rfl)) ?_
  refine sr_sub [(2, _, _), (3, _, _)] (sub_cons rfl (sub_cons rfl (sub_nil _))) ?_
  refine sr_nil (hK3 _ _ ?_)
  refine sc_block ?_
  refine sc_seq fun K4 hK4 => ?_
  refine sc_seq fun K5 hK5 => ?_
  refine sc_text [3, 3] ?_
  refine sr_pu rfl (fun _ => rd_seq (ev_t rfl) ev_c) ?_
  refine sr_pu rfl (fun _ => rd_assign (ev_t rfl)) ?_
  refine sr_sub [(2, _, _), (3, _, _), (4, _, _)] (sub_cons rfl (sub_cons rfl (sub_cons rfl (sub_nil _)))) ?_
  refine sr_nil (hK5 _ _ ?_)
  refine' sc_or [(2, _, _)] (sub_cons rfl (sub_cons rfl (sub_nil _))) rfl (fun hb1 => ?y1) (hK4 _ _ ?n1)
  case y1 =>
   refine sc_seq fun K6 hK6 => ?_
   refine sc_text [3, 3] ?_
   refine sr_pu rfl (fun _ => rd_seq (ev_t rfl) ev_c) ?_
   refine sr_pu rfl (fun _ => rd_assign (ev_t rfl)) ?_
   refine sr_sub [(2, _, _), (3, _, _), (4, _, _)] (sub_cons rfl (sub_cons rfl (sub_cons rfl (sub_nil _)))) ?_
   refine sr_nil (hK6 _ _ ?_)
   refine' sc_or [(2, _, _)] (sub_cons rfl (sub_cons rfl (sub_nil _))) rfl (fun hb2 => ?y2) (fun a ha => ⟨ha, rfl⟩)
   case y2 =>
    refine sc_seq fun K7 hK7 => ?_
    refine sc_text [3, 3] ?_
    refine sr_pu rfl (fun _ => rd_seq (ev_t rfl) ev_c) ?_
    refine sr_pu rfl (fun _ => rd_assign (ev_t rfl)) ?_
    refine sr_sub [(2, _, _), (3, _, _), (4, _, _)] (sub_cons rfl (sub_cons rfl (sub_cons rfl (sub_nil _)))) ?_
    refine sr_nil (hK7 _ _ ?_)
    refine' sc_or [(2, _, _)] (sub_cons rfl (sub_cons rfl (sub_nil _))) rfl (fun hb3 => ?y3) (fun a ha => ⟨ha, rfl⟩)
    case y3 =>
     refine sc_seq fun K8 hK8 => ?_
     refine sc_text [3, 3] ?_
     refine sr_pu rfl (fun _ => rd_seq (ev_t rfl) ev_c) ?_
     refine sr_pu rfl (fun _ => rd_assign (ev_t rfl)) ?_
     refine sr_sub [(2, _, _), (3, _, _), (4, _, _)] (sub_cons rfl (sub_cons rfl (sub_cons rfl (sub_nil _)))) ?_
     refine sr_nil (hK8 _ _ ?_)
     refine' sc_or [(2, _, _)] (sub_cons rfl (sub_cons rfl (sub_nil _))) rfl (fun hb4 => ?y4) (fun a ha => ⟨ha, rfl⟩)
     case y4 =>
      refine sc_seq fun K9 hK9 => ?_
      refine sc_text [3, 3] ?_
      refine sr_pu rfl (fun _ => rd_seq (ev_t rfl) ev_c) ?_
      refine sr_pu rfl (fun _ => rd_assign (ev_t rfl)) ?_
      refine sr_sub [(2, _, _), (3, _, _), (4, _, _)] (sub_cons rfl (sub_cons rfl (sub_cons rfl (sub_nil _)))) ?_
      refine sr_nil (hK9 _ _ ?_)
      refine' sc_or [(2, _, _)] (sub_cons rfl (sub_cons rfl (sub_nil _))) rfl (fun hb5 => ?y5) (fun a ha => ⟨ha, rfl⟩)
      case y5 =>
       refine sc_seq fun K10 hK10 => ?_
       refine sc_text [3, 3] ?_
       refine sr_pu rfl (fun _ => rd_seq (ev_t rfl) ev_c) ?_
       refine sr_pu rfl (fun _ => rd_assign (ev_t rfl)) ?_
       refine sr_sub [(2, _, _), (3, _, _), (4, _, _)] (sub_cons rfl (sub_cons rfl (sub_cons rfl (sub_nil _)))) ?_
       refine sr_nil (hK10 _ _ ?_)
       refine' sc_or [(2, _, _)] (sub_cons rfl (sub_cons rfl (sub_nil _))) rfl (fun hb6 => ?y6) (fun a ha => ⟨ha, rfl⟩)
       case y6 =>
        refine sc_seq fun K11 hK11 => ?_
        refine sc_text [3, 3] ?_
        refine sr_pu rfl (fun _ => rd_seq (ev_t rfl) ev_c) ?_
        refine sr_pu rfl (fun _ => rd_assign (ev_t rfl)) ?_
        refine sr_sub [(2, _, _), (3, _, _), (4, _, _)] (sub_cons rfl (sub_cons rfl (sub_cons rfl (sub_nil _)))) ?_
        refine sr_nil (hK11 _ _ ?_)
        refine' sc_or [(2, _, _)] (sub_cons rfl (sub_cons rfl (sub_nil _))) rfl (fun hb7 => ?y7) (fun a ha => ⟨ha, rfl⟩)
        case y7 =>
         refine sc_seq fun K12 hK12 => ?_
         refine sc_text [3, 3] ?_
         refine sr_pu rfl (fun _ => rd_seq (ev_t rfl) ev_c) ?_
         refine sr_pu rfl (fun _ => rd_assign (ev_t rfl)) ?_
         refine sr_sub [(2, _, _), (3, _, _), (4, _, _)] (sub_cons rfl (sub_cons rfl (sub_cons rfl (sub_nil _)))) ?_
         refine sr_nil (hK12 _ _ ?_)
         refine' sc_or [(2, _, _)] (sub_cons rfl (sub_cons rfl (sub_nil _))) rfl (fun hb8 => ?y8) (fun a ha => ⟨ha, rfl⟩)
         case y8 =>
          refine sc_seq fun K13 hK13 => ?_
          refine sc_text [3, 3] ?_
          refine sr_pu rfl (fun _ => rd_seq (ev_t rfl) ev_c) ?_
          refine sr_pu rfl (fun _ => rd_assign (ev_t rfl)) ?_
          refine sr_sub [(2, _, _), (3, _, _), (4, _, _)] (sub_cons rfl (sub_cons rfl (sub_cons rfl (sub_nil _)))) ?_
          refine sr_nil (hK13 _ _ ?_)
          refine' sc_or [(2, _, _)] (sub_cons rfl (sub_cons rfl (sub_nil _))) rfl (fun hb9 => ?y9) (fun a ha => ⟨ha, rfl⟩)
          case y9 =>
           refine sc_seq fun K14 hK14 => ?_
           refine sc_text [3, 3] ?_
           refine sr_pu rfl (fun _ => rd_seq (ev_t rfl) ev_c) ?_
           refine sr_pu rfl (fun _ => rd_assign (ev_t rfl)) ?_
           refine sr_sub [(2, _, _), (3, _, _), (4, _, _)] (sub_cons rfl (sub_cons rfl (sub_cons rfl (sub_nil _)))) ?_
           refine sr_nil (hK14 _ _ ?_)
           refine' sc_or [(2, _, _)] (sub_cons rfl (sub_cons rfl (sub_nil _))) rfl (fun hb10 => ?y10) (fun a ha => ⟨ha, rfl⟩)
           case y10 =>
            refine sc_seq fun K15 hK15 => ?_
            refine sc_text [3, 3] ?_
            refine sr_pu rfl (fun _ => rd_seq (ev_t rfl) ev_c) ?_
            refine sr_pu rfl (fun _ => rd_assign (ev_t rfl)) ?_
            refine sr_sub [(2, _, _), (3, _, _), (4, _, _)] (sub_cons rfl (sub_cons rfl (sub_cons rfl (sub_nil _)))) ?_
            refine sr_nil (hK15 _ _ ?_)
            refine' sc_or [(2, _, _)] (sub_cons rfl (sub_cons rfl (sub_nil _))) rfl (fun hb11 => ?y11) (fun a ha => ⟨ha, rfl⟩)
            case y11 =>
             refine sc_seq fun K16 hK16 => ?_
             refine sc_text [3, 3] ?_
             refine sr_pu rfl (fun _ => rd_seq (ev_t rfl) ev_c) ?_
             refine sr_pu rfl (fun _ => rd_assign (ev_t rfl)) ?_
             refine sr_sub [(2, _, _), (3, _, _), (4, _, _)] (sub_cons rfl (sub_cons rfl (sub_cons rfl (sub_nil _)))) ?_
             refine sr_nil (hK16 _ _ ?_)
             refine' sc_or [(2, _, _)] (sub_cons rfl (sub_cons rfl (sub_nil _))) rfl (fun hb12 => ?y12) (fun a ha => ⟨ha, rfl⟩)
             case y12 =>
              refine sc_seq fun K17 hK17 => ?_
              refine sc_text [3, 3] ?_
              refine sr_pu rfl (fun _ => rd_seq (ev_t rfl) ev_c) ?_
              refine sr_pu rfl (fun _ => rd_assign (ev_t rfl)) ?_
              refine sr_sub [(2, _, _), (3, _, _), (4, _, _)] (sub_cons rfl (sub_cons rfl (sub_cons rfl (sub_nil _)))) ?_
              refine sr_nil (hK17 _ _ ?_)
              refine' sc_or [(2, _, _)] (sub_cons rfl (sub_cons rfl (sub_nil _))) rfl (fun hb13 => ?y13) (fun a ha => ⟨ha, rfl⟩)
              case y13 =>
               refine sc_text [3, 3] ?_
               refine sr_pu rfl (fun _ => rd_seq (ev_t rfl) ev_c) ?_
               refine sr_pu rfl (fun _ => rd_assign (ev_t rfl)) ?_
               refine sr_sub [(4, _, _), (2, _, _)] (sub_cons rfl (sub_cons rfl (sub_nil _))) ?_
               exact sr_nil (fun a ha => ⟨ha, rfl⟩)
  case n1 =>
   refine sc_cond (ev_t rfl) (fun h14 => ?_) (fun h14 => ?_)
   · (try simp only [bsimp] at h14)
     refine sc_seq fun K18 hK18 => ?_
     refine sc_text [3] ?_
     refine sr_pu rfl (fun _ => rd_assign ev_c) ?_
     refine sr_sub [(2, _, _)] (sub_cons rfl (sub_nil _)) ?_
     refine sr_nil (hK18 _ _ ?_)
     refine sc_ret (t_ret1 rfl rfl ?_)
     refine ⟨?_, g⟩; simp only [inB, endw, List.any_cons, List.any_nil, Bool.or_false]; rw [h14]
   · (try simp only [bsimp] at h14)
     refine sc_skip (hK2 _ _ ?_)
     refine sc_sub [(2, _, _)] (sub_cons rfl (sub_nil _)) ?_
     refine sc_seq fun K19 hK19 => ?_
     refine sc_text [3] ?_
     refine sr_pu rfl (fun _ => rd_assign ev_c) ?_
     refine sr_nil (hK19 _ _ ?_)
     refine sc_ret (t_ret1 rfl rfl ?_)
     refine ⟨?_, g⟩; simp only [inB, endw, List.any_cons, List.any_nil, Bool.or_false]; rw [h14]
theorem rkeyword_ok (s : List UInt8) (w : World) : Ret PP fn_r02_Keyword #[Str s] w fun v w' => v = .bool (inB kws s) ∧ G w w' := by
  have g := G.refl w
  refine ret_of_sc (m := 34) func_r02_Keyword rfl rfl [(0, True, _)] (sub_cons rfl (sub_nil _)) ?_
  refine sc_seq fun K1 hK1 => ?_
  refine sc_text [3] ?_
  refine sr_pu rfl (fun _ => rd_assign ev_c) ?_
  refine sr_nil (hK1 _ _ ?_)
  refine sc_seq fun K2 hK2 => ?_
  refine sc_seq fun K3 hK3 => ?_
  refine sc_text [3] ?_
  refine sr_pu rfl (fun _ => rd_move (ev_t rfl)) ?_
  refine sr_sub [(2, _, _), (3, _, _)] (sub_cons rfl (sub_cons rfl (sub_nil _))) ?_
  refine sr_nil (hK3 _ _ ?_)
  refine sc_block ?_
  refine sc_seq fun K4 hK4 => ?_
  refine sc_seq fun K5 hK5 => ?_
  refine sc_text [3, 3] ?_
  refine sr_pu rfl (fun _ => rd_seq (ev_t rfl) ev_c) ?_
  refine sr_pu rfl (fun _ => rd_assign (ev_t rfl)) ?_
  refine sr_sub [(2, _, _), (3, _, _), (4, _, _)] (sub_cons rfl (sub_cons rfl (sub_cons rfl (sub_nil _)))) ?_
  refine sr_nil (hK5 _ _ ?_)
  refine' sc_or [(2, _, _)] (sub_cons rfl (sub_cons rfl (sub_nil _))) rfl (fun hb1 => ?y1) (hK4 _ _ ?n1)
  case y1 =>
   refine sc_seq fun K6 hK6 => ?_
   refine sc_text [3, 3] ?_
   refine sr_pu rfl (fun _ => rd_seq (ev_t rfl) ev_c) ?_
   refine sr_pu rfl (fun _ => rd_assign (ev_t rfl)) ?_
   refine sr_sub [(2, _, _), (3, _, _), (4, _, _)] (sub_cons rfl (sub_cons rfl (sub_cons rfl (sub_nil _)))) ?_
   refine sr_nil (hK6 _ _ ?_)
   refine' sc_or [(2, _, _)] (sub_cons rfl (sub_cons rfl (sub_nil _))) rfl (fun hb2 => ?y2) (fun a ha => ⟨ha, rfl⟩)
   case y2 =>
    refine sc_seq fun K7 hK7 => ?_
    refine sc_text [3, 3] ?_
    refine sr_pu rfl (fun _ => rd_seq (ev_t rfl) ev_c) ?_
    refine sr_pu rfl (fun _ => rd_assign (ev_t rfl)) ?_
    refine sr_sub [(2, _, _), (3, _, _), (4, _, _)] (sub_cons rfl (sub_cons rfl (sub_cons rfl (sub_nil _)))) ?_
    refine sr_nil (hK7 _ _ ?_)
    refine' sc_or [(2, _, _)] (sub_cons rfl (sub_cons rfl (sub_nil _))) rfl (fun hb3 => ?y3) (fun a ha => ⟨ha, rfl⟩)
    case y3 =>
     refine sc_seq fun K8 hK8 => ?_
     refine sc_text [3, 3] ?_
     refine sr_pu rfl (fun _ => rd_seq (ev_t rfl) ev_c) ?_
     refine sr_pu rfl (fun _ => rd_assign (ev_t rfl)) ?_
     refine sr_sub [(2, _, _), (3, _, _), (4, _, _)] (sub_cons rfl (sub_cons rfl (sub_cons rfl (sub_nil _)))) ?_
     refine sr_nil (hK8 _ _ ?_)
     refine' sc_or [(2, _, _)] (sub_cons rfl (sub_cons rfl (sub_nil _))) rfl (fun hb4 => ?y4) (fun a ha => ⟨ha, rfl⟩)
     case y4 =>
      refine sc_seq fun K9 hK9 => ?_
      refine sc_text [3, 3] ?_
      refine sr_pu rfl (fun _ => rd_seq (ev_t rfl) ev_c) ?_
      refine sr_pu rfl (fun _ => rd_assign (ev_t rfl)) ?_
      refine sr_sub [(2, _, _), (3, _, _), (4, _, _)] (sub_cons rfl (sub_cons rfl (sub_cons rfl (sub_nil _)))) ?_
      refine sr_nil (hK9 _ _ ?_)
      refine' sc_or [(2, _, _)] (sub_cons rfl (sub_cons rfl (sub_nil _))) rfl (fun hb5 => ?y5) (fun a ha => ⟨ha, rfl⟩)
      case y5 =>
       refine sc_seq fun K10 hK10 => ?_
       refine sc_text [3, 3] ?_
       refine sr_pu rfl (fun _ => rd_seq (ev_t rfl) ev_c) ?_
       refine sr_pu rfl (fun _ => rd_assign (ev_t rfl)) ?_
       refine sr_sub [(2, _, _), (3, _, _), (4, _, _)] (sub_cons rfl (sub_cons rfl (sub_cons rfl (sub_nil _)))) ?_
       refine sr_nil (hK10 _ _ ?_)
       refine' sc_or [(2, _, _)] (sub_cons rfl (sub_cons rfl (sub_nil _))) rfl (fun hb6 => ?y6) (fun a ha => ⟨ha, rfl⟩)
       case y6 =>
        refine sc_seq fun K11 hK11 => ?_
        refine sc_text [3, 3] ?_
        refine sr_pu rfl (fun _ => rd_seq (ev_t rfl) ev_c) ?_
        refine sr_pu rfl (fun _ => rd_assign (ev_t rfl)) ?_
        refine sr_sub [(2, _, _), (3, _, _), (4, _, _)] (sub_cons rfl (sub_cons rfl (sub_cons rfl (sub_nil _)))) ?_
        refine sr_nil (hK11 _ _ ?_)
        refine' sc_or [(2, _, _)] (sub_cons rfl (sub_cons rfl (sub_nil _))) rfl (fun hb7 => ?y7) (fun a ha => ⟨ha, rfl⟩)
        case y7 =>
         refine sc_seq fun K12 hK12 => ?_
         refine sc_text [3, 3] ?_
         refine sr_pu rfl (fun _ => rd_seq (ev_t rfl) ev_c) ?_
         refine sr_pu rfl (fun _ => rd_assign (ev_t rfl)) ?_
         refine sr_sub [(2, _, _), (3, _, _), (4, _, _)] (sub_cons rfl (sub_cons rfl (sub_cons rfl (sub_nil _)))) ?_
         refine sr_nil (hK12 _ _ ?_)
         refine' sc_or [(2, _, _)] (sub_cons rfl (sub_cons rfl (sub_nil _))) rfl (fun hb8 => ?y8) (fun a ha => ⟨ha, rfl⟩)
         case y8 =>
          refine sc_seq fun K13 hK13 => ?_
          refine sc_text [3, 3] ?_
          refine sr_pu rfl (fun _ => rd_seq (ev_t rfl) ev_c) ?_
          refine sr_pu rfl (fun _ => rd_assign (ev_t rfl)) ?_
          refine sr_sub [(2, _, _), (3, _, _), (4, _, _)] (sub_cons rfl (sub_cons rfl (sub_cons rfl (sub_nil _)))) ?_
          refine sr_nil (hK13 _ _ ?_)
          refine' sc_or [(2, _, _)] (sub_cons rfl (sub_cons rfl (sub_nil _))) rfl (fun hb9 => ?y9) (fun a ha => ⟨ha, rfl⟩)
          case y9 =>
           refine sc_seq fun K14 hK14 => ?_
           refine sc_text [3, 3] ?_
           refine sr_pu rfl (fun _ => rd_seq (ev_t rfl) ev_c) ?_
           refine sr_pu rfl (fun _ => rd_assign (ev_t rfl)) ?_
           refine sr_sub [(2, _, _), (3, _, _), (4, _, _)] (sub_cons rfl (sub_cons rfl (sub_cons rfl (sub_nil _)))) ?_
           refine sr_nil (hK14 _ _ ?_)
           refine' sc_or [(2, _, _)] (sub_cons rfl (sub_cons rfl (sub_nil _))) rfl (fun hb10 => ?y10) (fun a ha => ⟨ha, rfl⟩)
           case y10 =>
            refine sc_seq fun K15 hK15 => ?_
            refine sc_text [3, 3] ?_
            refine sr_pu rfl (fun _ => rd_seq (ev_t rfl) ev_c) ?_
            refine sr_pu rfl (fun _ => rd_assign (ev_t rfl)) ?_
            refine sr_sub [(2, _, _), (3, _, _), (4, _, _)] (sub_cons rfl (sub_cons rfl (sub_cons rfl (sub_nil _)))) ?_
            refine sr_nil (hK15 _ _ ?_)
            refine' sc_or [(2, _, _)] (sub_cons rfl (sub_cons rfl (sub_nil _))) rfl (fun hb11 => ?y11) (fun a ha => ⟨ha, rfl⟩)
            case y11 =>
             refine sc_seq fun K16 hK16 => ?_
             refine sc_text [3, 3] ?_
             refine sr_pu rfl (fun _ => rd_seq (ev_t rfl) ev_c) ?_
             refine sr_pu rfl (fun _ => rd_assign (ev_t rfl)) ?_
             refine sr_sub [(2, _, _), (3, _, _), (4, _, _)] (sub_cons rfl (sub_cons rfl (sub_cons rfl (sub_nil _)))) ?_
             refine sr_nil (hK16 _ _ ?_)
             refine' sc_or [(2, _, _)] (sub_cons rfl (sub_cons rfl (sub_nil _))) rfl (fun hb12 => ?y12) (fun a ha => ⟨ha, rfl⟩)
             case y12 =>
              refine sc_seq fun K17 hK17 => ?_
              refine sc_text [3, 3] ?_
              refine sr_pu rfl (fun _ => rd_seq (ev_t rfl) ev_c) ?_
              refine sr_pu rfl (fun _ => rd_assign (ev_t rfl)) ?_
              refine sr_sub [(2, _, _), (3, _, _), (4, _, _)] (sub_cons rfl (sub_cons rfl (sub_cons rfl (sub_nil _)))) ?_
              refine sr_nil (hK17 _ _ ?_)
              refine' sc_or [(2, _, _)] (sub_cons rfl (sub_cons rfl (sub_nil _))) rfl (fun hb13 => ?y13) (fun a ha => ⟨ha, rfl⟩)
              case y13 =>
               refine sc_seq fun K18 hK18 => ?_
               refine sc_text [3, 3] ?_
               refine sr_pu rfl (fun _ => rd_seq (ev_t rfl) ev_c) ?_
               refine sr_pu rfl (fun _ => rd_assign (ev_t rfl)) ?_
               refine sr_sub [(2, _, _), (3, _, _), (4, _, _)] (sub_cons rfl (sub_cons rfl (sub_cons rfl (sub_nil _)))) ?_
               refine sr_nil (hK18 _ _ ?_)
               refine' sc_or [(2, _, _)] (sub_cons rfl (sub_cons rfl (sub_nil _))) rfl (fun hb14 => ?y14) (fun a ha => ⟨ha, rfl⟩)
               case y14 =>
                refine sc_seq fun K19 hK19 => ?_
                refine sc_text [3, 3] ?_
                refine sr_pu rfl (fun _ => rd_seq (ev_t rfl) ev_c) ?_
                refine sr_pu rfl (fun _ => rd_assign (ev_t rfl)) ?_
                refine sr_sub [(2, _, _), (3, _, _), (4, _, _)] (sub_cons rfl (sub_cons rfl (sub_cons rfl (sub_nil _)))) ?_
                refine sr_nil (hK19 _ _ ?_)
                refine' sc_or [(2, _, _)] (sub_cons rfl (sub_cons rfl (sub_nil _))) rfl (fun hb15 => ?y15) (fun a ha => ⟨ha, rfl⟩)
                case y15 =>
                 refine sc_seq fun K20 hK20 => ?_
                 refine sc_text [3, 3] ?_
                 refine sr_pu rfl (fun _ => rd_seq (ev_t rfl) ev_c) ?_
                 refine sr_pu rfl (fun _ => rd_assign (ev_t rfl)) ?_
                 refine sr_sub [(2, _, _), (3, _, _), (4, _, _)] (sub_cons rfl (sub_cons rfl (sub_cons rfl (sub_nil _)))) ?_
                 refine sr_nil (hK20 _ _ ?_)
                 refine' sc_or [(2, _, _)] (sub_cons rfl (sub_cons rfl (sub_nil _))) rfl (fun hb16 => ?y16) (fun a ha => ⟨ha, rfl⟩)
                 case y16 =>
                  refine sc_seq fun K21 hK21 => ?_
                  refine sc_text [3, 3] ?_
                  refine sr_pu rfl (fun _ => rd_seq (ev_t rfl) ev_c) ?_
                  refine sr_pu rfl (fun _ => rd_assign (ev_t rfl)) ?_
                  refine sr_sub [(2, _, _), (3, _, _), (4, _, _)] (sub_cons rfl (sub_cons rfl (sub_cons rfl (sub_nil _)))) ?_
                  refine sr_nil (hK21 _ _ ?_)
                  refine' sc_or [(2, _, _)] (sub_cons rfl (sub_cons rfl (sub_nil _))) rfl (fun hb17 => ?y17) (fun a ha => ⟨ha, rfl⟩)
                  case y17 =>
                   refine sc_seq fun K22 hK22 => ?_
                   refine sc_text [3, 3] ?_
                   refine sr_pu rfl (fun _ => rd_seq (ev_t rfl) ev_c) ?_
                   refine sr_pu rfl (fun _ => rd_assign (ev_t rfl)) ?_
                   refine sr_sub [(2, _, _), (3, _, _), (4, _, _)] (sub_cons rfl (sub_cons rfl (sub_cons rfl (sub_nil _)))) ?_
                   refine sr_nil (hK22 _ _ ?_)
                   refine' sc_or [(2, _, _)] (sub_cons rfl (sub_cons rfl (sub_nil _))) rfl (fun hb18 => ?y18) (fun a ha => ⟨ha, rfl⟩)
                   case y18 =>
                    refine sc_seq fun K23 hK23 => ?_
                    refine sc_text [3, 3] ?_
                    refine sr_pu rfl (fun _ => rd_seq (ev_t rfl) ev_c) ?_
                    refine sr_pu rfl (fun _ => rd_assign (ev_t rfl)) ?_
                    refine sr_sub [(2, _, _), (3, _, _), (4, _, _)] (sub_cons rfl (sub_cons rfl (sub_cons rfl (sub_nil _)))) ?_
                    refine sr_nil (hK23 _ _ ?_)
                    refine' sc_or [(2, _, _)] (sub_cons rfl (sub_cons rfl (sub_nil _))) rfl (fun hb19 => ?y19) (fun a ha => ⟨ha, rfl⟩)
                    case y19 =>
                     refine sc_seq fun K24 hK24 => ?_
                     refine sc_text [3, 3] ?_
                     refine sr_pu rfl (fun _ => rd_seq (ev_t rfl) ev_c) ?_
                     refine sr_pu rfl (fun _ => rd_assign (ev_t rfl)) ?_
                     refine sr_sub [(2, _, _), (3, _, _), (4, _, _)] (sub_cons rfl (sub_cons rfl (sub_cons rfl (sub_nil _)))) ?_
                     refine sr_nil (hK24 _ _ ?_)
                     refine' sc_or [(2, _, _)] (sub_cons rfl (sub_cons rfl (sub_nil _))) rfl (fun hb20 => ?y20) (fun a ha => ⟨ha, rfl⟩)
                     case y20 =>
                      refine sc_seq fun K25 hK25 => ?_
                      refine sc_text [3, 3] ?_
                      refine sr_pu rfl (fun _ => rd_seq (ev_t rfl) ev_c) ?_
                      refine sr_pu rfl (fun _ => rd_assign (ev_t rfl)) ?_
                      refine sr_sub [(2, _, _), (3, _, _), (4, _, _)] (sub_cons rfl (sub_cons rfl (sub_cons rfl (sub_nil _)))) ?_
                      refine sr_nil (hK25 _ _ ?_)
                      refine' sc_or [(2, _, _)] (sub_cons rfl (sub_cons rfl (sub_nil _))) rfl (fun hb21 => ?y21) (fun a ha => ⟨ha, rfl⟩)
                      case y21 =>
                       refine sc_seq fun K26 hK26 => ?_
                       refine sc_text [3, 3] ?_
                       refine sr_pu rfl (fun _ => rd_seq (ev_t rfl) ev_c) ?_
                       refine sr_pu rfl (fun _ => rd_assign (ev_t rfl)) ?_
                       refine sr_sub [(2, _, _), (3, _, _), (4, _, _)] (sub_cons rfl (sub_cons rfl (sub_cons rfl (sub_nil _)))) ?_
                       refine sr_nil (hK26 _ _ ?_)
                       refine' sc_or [(2, _, _)] (sub_cons rfl (sub_cons rfl (sub_nil _))) rfl (fun hb22 => ?y22) (fun a ha => ⟨ha, rfl⟩)
                       case y22 =>
                        refine sc_seq fun K27 hK27 => ?_
                        refine sc_text [3, 3] ?_
                        refine sr_pu rfl (fun _ => rd_seq (ev_t rfl) ev_c) ?_
                        refine sr_pu rfl (fun _ => rd_assign (ev_t rfl)) ?_
                        refine sr_sub [(2, _, _), (3, _, _), (4, _, _)] (sub_cons rfl (sub_cons rfl (sub_cons rfl (sub_nil _)))) ?_
                        refine sr_nil (hK27 _ _ ?_)
                        refine' sc_or [(2, _, _)] (sub_cons rfl (sub_cons rfl (sub_nil _))) rfl (fun hb23 => ?y23) (fun a ha => ⟨ha, rfl⟩)
                        case y23 =>
                         refine sc_seq fun K28 hK28 => ?_
                         refine sc_text [3, 3] ?_
                         refine sr_pu rfl (fun _ => rd_seq (ev_t rfl) ev_c) ?_
                         refine sr_pu rfl (fun _ => rd_assign (ev_t rfl)) ?_
                         refine sr_sub [(2, _, _), (3, _, _), (4, _, _)] (sub_cons rfl (sub_cons rfl (sub_cons rfl (sub_nil _)))) ?_
                         refine sr_nil (hK28 _ _ ?_)
                         refine' sc_or [(2, _, _)] (sub_cons rfl (sub_cons rfl (sub_nil _))) rfl (fun hb24 => ?y24) (fun a ha => ⟨ha, rfl⟩)
                         case y24 =>
                          refine sc_seq fun K29 hK29 => ?_
                          refine sc_text [3, 3] ?_
                          refine sr_pu rfl (fun _ => rd_seq (ev_t rfl) ev_c) ?_
                          refine sr_pu rfl (fun _ => rd_assign (ev_t rfl)) ?_
                          refine sr_sub [(2, _, _), (3, _, _), (4, _, _)] (sub_cons rfl (sub_cons rfl (sub_cons rfl (sub_nil _)))) ?_
                          refine sr_nil (hK29 _ _ ?_)
                          refine' sc_or [(2, _, _)] (sub_cons rfl (sub_cons rfl (sub_nil _))) rfl (fun hb25 => ?y25) (fun a ha => ⟨ha, rfl⟩)
                          case y25 =>
                           refine sc_seq fun K30 hK30 => ?_
                           refine sc_text [3, 3] ?_
                           refine sr_pu rfl (fun _ => rd_seq (ev_t rfl) ev_c) ?_
                           refine sr_pu rfl (fun _ => rd_assign (ev_t rfl)) ?_
                           refine sr_sub [(2, _, _), (3, _, _), (4, _, _)] (sub_cons rfl (sub_cons rfl (sub_cons rfl (sub_nil _)))) ?_
                           refine sr_nil (hK30 _ _ ?_)
                           refine' sc_or [(2, _, _)] (sub_cons rfl (sub_cons rfl (sub_nil _))) rfl (fun hb26 => ?y26) (fun a ha => ⟨ha, rfl⟩)
                           case y26 =>
                            refine sc_seq fun K31 hK31 => ?_
                            refine sc_text [3, 3] ?_
                            refine sr_pu rfl (fun _ => rd_seq (ev_t rfl) ev_c) ?_
                            refine sr_pu rfl (fun _ => rd_assign (ev_t rfl)) ?_
                            refine sr_sub [(2, _, _), (3, _, _), (4, _, _)] (sub_cons rfl (sub_cons rfl (sub_cons rfl (sub_nil _)))) ?_
                            refine sr_nil (hK31 _ _ ?_)
                            refine' sc_or [(2, _, _)] (sub_cons rfl (sub_cons rfl (sub_nil _))) rfl (fun hb27 => ?y27) (fun a ha => ⟨ha, rfl⟩)
                            case y27 =>
                             refine sc_seq fun K32 hK32 => ?_
                             refine sc_text [3, 3] ?_
                             refine sr_pu rfl (fun _ => rd_seq (ev_t rfl) ev_c) ?_
                             refine sr_pu rfl (fun _ => rd_assign (ev_t rfl)) ?_
                             refine sr_sub [(2, _, _), (3, _, _), (4, _, _)] (sub_cons rfl (sub_cons rfl (sub_cons rfl (sub_nil _)))) ?_
                             refine sr_nil (hK32 _ _ ?_)
                             refine' sc_or [(2, _, _)] (sub_cons rfl (sub_cons rfl (sub_nil _))) rfl (fun hb28 => ?y28) (fun a ha => ⟨ha, rfl⟩)
                             case y28 =>
                              refine sc_text [3, 3] ?_
                              refine sr_pu rfl (fun _ => rd_seq (ev_t rfl) ev_c) ?_
                              refine sr_pu rfl (fun _ => rd_assign (ev_t rfl)) ?_
                              refine sr_sub [(4, _, _), (2, _, _)] (sub_cons rfl (sub_cons rfl (sub_nil _))) ?_
                              exact sr_nil (fun a ha => ⟨ha, rfl⟩)
  case n1 =>
   refine sc_cond (ev_t rfl) (fun h29 => ?_) (fun h29 => ?_)
   · (try simp only [bsimp] at h29)
     refine sc_seq fun K33 hK33 => ?_
     refine sc_text [3] ?_
     refine sr_pu rfl (fun _ => rd_assign ev_c) ?_
     refine sr_sub [(2, _, _)] (sub_cons rfl (sub_nil _)) ?_
     refine sr_nil (hK33 _ _ ?_)
     refine sc_ret (t_ret1 rfl rfl ?_)
     refine ⟨?_, g⟩; simp only [inB, kws, List.any_cons, List.any_nil, Bool.or_false]; rw [h29]
   · (try simp only [bsimp] at h29)
     refine sc_skip (hK2 _ _ ?_)
     refine sc_sub [(2, _, _)] (sub_cons rfl (sub_nil _)) ?_
     refine sc_seq fun K34 hK34 => ?_
     refine sc_text [3] ?_
     refine sr_pu rfl (fun _ => rd_assign ev_c) ?_
     refine sr_nil (hK34 _ _ ?_)
     refine sc_ret (t_ret1 rfl rfl ?_)
     refine ⟨?_, g⟩; simp only [inB, kws, List.any_cons, List.any_nil, Bool.or_false]; rw [h29]
end Go.Rk
