/- Merged texts of one road: ScanA, ScanB, ScanC, ScanD, ScanP, ScanE. Conditions: each text's own. -/
import Derived.Test.YtheifopckahdiaaDoorB02
import Derived.Shelf.Strconv.ParseIntPublic10
set_option linter.unusedSimpArgs false
set_option linter.unusedVariables false
namespace Go.Rk
open Go
theorem bsimp : True := trivial
def letterB (c : Int) : Bool := (decide (97 ≤ c) && decide (c ≤ 122) || decide (65 ≤ c) && decide (c ≤ 90)) || decide (c = 95)
def digitB (c : Int) : Bool := decide (48 ≤ c) && decide (c ≤ 57)
theorem letter_ok (c : Int) (w : World) : Ret PP fn_scan_letter #[.int .u8 c] w fun v w' => v = .bool (letterB c) ∧ G w w' := by
  have g := G.refl w
  refine ret_of_sc (m := 21) func_scan_letter rfl rfl [(0, True, _)] (sub_cons rfl (sub_nil _)) ?_
  refine sc_seq fun K1 hK1 => ?_
  refine sc_text [3] ?_
  refine sr_pu rfl (fun _ => rd_assign ev_c) ?_
  refine sr_nil (hK1 _ _ ?_)
  refine sc_seq fun K2 hK2 => ?_
  refine sc_text [3, 3, 3, 3, 3, 3, 3, 3, 3, 3, 3, 3, 3, 3, 3, 3, 3, 3, 3] ?_
  refine sr_pu rfl (fun _ => rd_move (ev_t rfl)) ?_
  refine sr_pu rfl (fun _ => rd_ge (ev_t rfl) ev_c) ?_
  refine sr_pu rfl (fun _ => rd_move (ev_t rfl)) ?_
  refine sr_pug rfl rfl rfl (fun _ => rd_move (ev_t rfl)) ?_
  refine sr_pug rfl rfl rfl (fun _ => rd_le (ev_u rfl id) ev_c) ?_
  refine sr_pu rfl (fun _ => rd_pick_and (ev_t rfl) (ev_u rfl id)) ?_
  refine sr_pu rfl (fun _ => rd_move (ev_t rfl)) ?_
  refine sr_pug rfl rfl rfl (fun _ => rd_move (ev_t rfl)) ?_
  refine sr_pug rfl rfl rfl (fun _ => rd_ge (ev_u rfl id) ev_c) ?_
  refine sr_pug rfl rfl rfl (fun _ => rd_move (ev_u rfl id)) ?_
  refine sr_pug rfl rfl rfl (fun _ => rd_move (ev_t rfl)) ?_
  refine sr_pug rfl rfl rfl (fun _ => rd_le (ev_u rfl id) ev_c) ?_
  refine sr_pug rfl rfl rfl (fun _ => rd_pick_and (ev_u rfl id) (ev_u rfl id)) ?_
  refine sr_pu rfl (fun _ => rd_pick_or (ev_t rfl) (ev_u rfl id)) ?_
  refine sr_pu rfl (fun _ => rd_move (ev_t rfl)) ?_
  refine sr_pug rfl rfl rfl (fun _ => rd_move (ev_t rfl)) ?_
  refine sr_pug rfl rfl rfl (fun _ => rd_eq (ev_u rfl id) ev_c) ?_
  refine sr_pu rfl (fun _ => rd_pick_or (ev_t rfl) (ev_u rfl id)) ?_
  refine sr_pu rfl (fun _ => rd_assign (ev_t rfl)) ?_
  refine sr_sub [(2, _, _)] (sub_cons rfl (sub_nil _)) ?_
  refine sr_nil (hK2 _ _ ?_)
  refine sc_ret (t_ret1 rfl rfl ?_)
  exact ⟨rfl, g⟩
theorem digit_ok (c : Int) (w : World) : Ret PP fn_scan_digit #[.int .u8 c] w fun v w' => v = .bool (digitB c) ∧ G w w' := by
  have g := G.refl w
  refine ret_of_sc (m := 9) func_scan_digit rfl rfl [(0, True, _)] (sub_cons rfl (sub_nil _)) ?_
  refine sc_seq fun K1 hK1 => ?_
  refine sc_text [3] ?_
  refine sr_pu rfl (fun _ => rd_assign ev_c) ?_
  refine sr_nil (hK1 _ _ ?_)
  refine sc_seq fun K2 hK2 => ?_
  refine sc_text [3, 3, 3, 3, 3, 3, 3] ?_
  refine sr_pu rfl (fun _ => rd_move (ev_t rfl)) ?_
  refine sr_pu rfl (fun _ => rd_ge (ev_t rfl) ev_c) ?_
  refine sr_pu rfl (fun _ => rd_move (ev_t rfl)) ?_
  refine sr_pug rfl rfl rfl (fun _ => rd_move (ev_t rfl)) ?_
  refine sr_pug rfl rfl rfl (fun _ => rd_le (ev_u rfl id) ev_c) ?_
  refine sr_pu rfl (fun _ => rd_pick_and (ev_t rfl) (ev_u rfl id)) ?_
  refine sr_pu rfl (fun _ => rd_assign (ev_t rfl)) ?_
  refine sr_sub [(2, _, _)] (sub_cons rfl (sub_nil _)) ?_
  refine sr_nil (hK2 _ _ ?_)
  refine sc_ret (t_ret1 rfl rfl ?_)
  exact ⟨rfl, g⟩
theorem notlf_ok (c : Int) (w : World) : Ret PP fn_scan_scanner_next_1 #[.int .u8 c] w fun v w' => v = .bool (!decide (c = 10)) ∧ G w w' := by
  have g := G.refl w
  refine ret_of_sc (m := 5) func_scan_scanner_next_1 rfl rfl [(0, True, _)] (sub_cons rfl (sub_nil _)) ?_
  refine sc_seq fun K1 hK1 => ?_
  refine sc_text [3] ?_
  refine sr_pu rfl (fun _ => rd_assign ev_c) ?_
  refine sr_nil (hK1 _ _ ?_)
  refine sc_seq fun K2 hK2 => ?_
  refine sc_text [3, 3, 3] ?_
  refine sr_pu rfl (fun _ => rd_move (ev_t rfl)) ?_
  refine sr_pu rfl (fun _ => rd_ne (ev_t rfl) ev_c) ?_
  refine sr_pu rfl (fun _ => rd_assign (ev_t rfl)) ?_
  refine sr_sub [(2, _, _)] (sub_cons rfl (sub_nil _)) ?_
  refine sr_nil (hK2 _ _ ?_)
  refine sc_ret (t_ret1 rfl rfl ?_)
  exact ⟨rfl, g⟩
theorem alnum_ok (c : Int) (w : World) : Ret PP fn_scan_scanner_next_2 #[.int .u8 c] w fun v w' => v = .bool (letterB c || digitB c) ∧ G w w' := by
  have g := G.refl w
  refine ret_of_sc (m := 9) func_scan_scanner_next_2 rfl rfl [(0, True, _)] (sub_cons rfl (sub_nil _)) ?_
  refine sc_seq fun K1 hK1 => ?_
  refine sc_text [3] ?_
  refine sr_pu rfl (fun _ => rd_assign ev_c) ?_
  refine sr_nil (hK1 _ _ ?_)
  refine sc_seq fun K2 hK2 => ?_
  refine sc_text [3, 1, 3, 3, 1, 3, 3] ?_
  refine sr_pu rfl (fun _ => rd_move (ev_t rfl)) ?_
  refine sr_pure rfl (rc_call go_scan_letter ev_f (args_cons (ev_t rfl) (args_nil)) rfl) (letter_ok _ _) (fun w4 g4 => ?_)
  have g := g.trans (g4)
  refine sr_pu rfl (fun _ => rd_move (ev_t rfl)) ?_
  refine sr_pug rfl rfl rfl (fun _ => rd_move (ev_t rfl)) ?_
  refine sr_pureg rfl rfl rfl (fun _ => (rc_call go_scan_digit ev_f (args_cons (ev_u rfl id) (args_nil)) rfl)) (fun hc => digit_ok _ _) (fun w7 g7 => ?_)
  have g := g.trans (g7)
  refine sr_pu rfl (fun _ => rd_pick_or (ev_t rfl) (ev_u rfl id)) ?_
  refine sr_pu rfl (fun _ => rd_assign (ev_t rfl)) ?_
  refine sr_sub [(2, _, _)] (sub_cons rfl (sub_nil _)) ?_
  refine sr_nil (hK2 _ _ ?_)
  refine sc_ret (t_ret1 rfl rfl ?_)
  exact ⟨rfl, g⟩
def kws : List (List UInt8) := [[116, 121, 112, 101], [115, 116, 114, 117, 99, 116], [118, 97, 114], [102, 117, 110, 99], [105, 102], [101, 108, 115, 101], [102, 111, 114], [114, 101, 116, 117, 114, 110], [103, 111], [100, 101, 102, 101, 114], [115, 101, 108, 101, 99, 116], [99, 97, 115, 101], [100, 101, 102, 97, 117, 108, 116], [99, 104, 97, 110], [110, 101, 119], [109, 97, 107, 101], [108, 101, 110], [116, 114, 117, 101], [102, 97, 108, 115, 101], [110, 105, 108], [112, 114, 105, 110, 116], [99, 108, 111, 115, 101], [105, 110, 116], [98, 111, 111, 108], [109, 117, 116, 101, 120], [114, 119, 109, 117, 116, 101, 120], [103, 114, 111, 117, 112], [111, 110, 99, 101], [97, 116, 111, 109, 105, 99]]
def endw : List (List UInt8) := [[116, 114, 117, 101], [102, 97, 108, 115, 101], [110, 105, 108], [114, 101, 116, 117, 114, 110], [105, 110, 116], [98, 111, 111, 108], [109, 117, 116, 101, 120], [114, 119, 109, 117, 116, 101, 120], [103, 114, 111, 117, 112], [111, 110, 99, 101], [97, 116, 111, 109, 105, 99], [41], [93], [125]]
def inB (l : List (List UInt8)) (s : List UInt8) : Bool := l.any fun k => decide (s = k)
theorem keyword_ok (s : List UInt8) (w : World) : Ret PP fn_scan_Keyword #[Str s] w fun v w' => v = .bool (inB kws s) ∧ G w w' := by
  have g := G.refl w
  refine ret_of_sc (m := 34) func_scan_Keyword rfl rfl [(0, True, _)] (sub_cons rfl (sub_nil _)) ?_
  refine sc_seq fun K1 hK1 => ?_
  refine sc_text [3] ?_
  refine sr_pu rfl (fun _ => rd_assign ev_c) ?_
  refine sr_nil (hK1 _ _ ?_)
  refine sc_seq fun K2 hK2 => ?_
  refine sc_seq fun K3 hK3 => ?_
  refine sc_text [3] ?_
  refine sr_pu rfl (fun _ => rd_move (ev_t rfl)) ?_
  refine sr_sub [(2, _, _), (3, _, _)] (sub_cons rfl (sub_cons rfl (sub_nil _))) ?_
  refine sr_nil (hK3 _ _ ?_)
  refine sc_block ?_
  refine sc_seq fun K4 hK4 => ?_
  refine sc_seq fun K5 hK5 => ?_
  refine sc_text [3, 3] ?_
  refine sr_pu rfl (fun _ => rd_seq (ev_t rfl) ev_c) ?_
  refine sr_pu rfl (fun _ => rd_assign (ev_t rfl)) ?_
  refine sr_sub [(2, _, _), (3, _, _), (4, _, _)] (sub_cons rfl (sub_cons rfl (sub_cons rfl (sub_nil _)))) ?_
  refine sr_nil (hK5 _ _ ?_)
  refine' sc_or [(2, _, _)] (sub_cons rfl (sub_cons rfl (sub_nil _))) rfl (fun hb1 => ?y1) (hK4 _ _ ?n1)
  case y1 =>
   refine sc_seq fun K6 hK6 => ?_
   refine sc_text [3, 3] ?_
   refine sr_pu rfl (fun _ => rd_seq (ev_t rfl) ev_c) ?_
   refine sr_pu rfl (fun _ => rd_assign (ev_t rfl)) ?_
   refine sr_sub [(2, _, _), (3, _, _), (4, _, _)] (sub_cons rfl (sub_cons rfl (sub_cons rfl (sub_nil _)))) ?_
   refine sr_nil (hK6 _ _ ?_)
   refine' sc_or [(2, _, _)] (sub_cons rfl (sub_cons rfl (sub_nil _))) rfl (fun hb2 => ?y2) (fun a ha => ⟨ha, rfl⟩)
   case y2 =>
    refine sc_seq fun K7 hK7 => ?_
    refine sc_text [3, 3] ?_
    refine sr_pu rfl (fun _ => rd_seq (ev_t rfl) ev_c) ?_
    refine sr_pu rfl (fun _ => rd_assign (ev_t rfl)) ?_
    refine sr_sub [(2, _, _), (3, _, _), (4, _, _)] (sub_cons rfl (sub_cons rfl (sub_cons rfl (sub_nil _)))) ?_
    refine sr_nil (hK7 _ _ ?_)
    refine' sc_or [(2, _, _)] (sub_cons rfl (sub_cons rfl (sub_nil _))) rfl (fun hb3 => ?y3) (fun a ha => ⟨ha, rfl⟩)
    case y3 =>
     refine sc_seq fun K8 hK8 => ?_
     refine sc_text [3, 3] ?_
     refine sr_pu rfl (fun _ => rd_seq (ev_t rfl) ev_c) ?_
     refine sr_pu rfl (fun _ => rd_assign (ev_t rfl)) ?_
     refine sr_sub [(2, _, _), (3, _, _), (4, _, _)] (sub_cons rfl (sub_cons rfl (sub_cons rfl (sub_nil _)))) ?_
     refine sr_nil (hK8 _ _ ?_)
     refine' sc_or [(2, _, _)] (sub_cons rfl (sub_cons rfl (sub_nil _))) rfl (fun hb4 => ?y4) (fun a ha => ⟨ha, rfl⟩)
     case y4 =>
      refine sc_seq fun K9 hK9 => ?_
      refine sc_text [3, 3] ?_
      refine sr_pu rfl (fun _ => rd_seq (ev_t rfl) ev_c) ?_
      refine sr_pu rfl (fun _ => rd_assign (ev_t rfl)) ?_
      refine sr_sub [(2, _, _), (3, _, _), (4, _, _)] (sub_cons rfl (sub_cons rfl (sub_cons rfl (sub_nil _)))) ?_
      refine sr_nil (hK9 _ _ ?_)
      refine' sc_or [(2, _, _)] (sub_cons rfl (sub_cons rfl (sub_nil _))) rfl (fun hb5 => ?y5) (fun a ha => ⟨ha, rfl⟩)
      case y5 =>
       refine sc_seq fun K10 hK10 => ?_
       refine sc_text [3, 3] ?_
       refine sr_pu rfl (fun _ => rd_seq (ev_t rfl) ev_c) ?_
       refine sr_pu rfl (fun _ => rd_assign (ev_t rfl)) ?_
       refine sr_sub [(2, _, _), (3, _, _), (4, _, _)] (sub_cons rfl (sub_cons rfl (sub_cons rfl (sub_nil _)))) ?_
       refine sr_nil (hK10 _ _ ?_)
       refine' sc_or [(2, _, _)] (sub_cons rfl (sub_cons rfl (sub_nil _))) rfl (fun hb6 => ?y6) (fun a ha => ⟨ha, rfl⟩)
       case y6 =>
        refine sc_seq fun K11 hK11 => ?_
        refine sc_text [3, 3] ?_
        refine sr_pu rfl (fun _ => rd_seq (ev_t rfl) ev_c) ?_
        refine sr_pu rfl (fun _ => rd_assign (ev_t rfl)) ?_
        refine sr_sub [(2, _, _), (3, _, _), (4, _, _)] (sub_cons rfl (sub_cons rfl (sub_cons rfl (sub_nil _)))) ?_
        refine sr_nil (hK11 _ _ ?_)
        refine' sc_or [(2, _, _)] (sub_cons rfl (sub_cons rfl (sub_nil _))) rfl (fun hb7 => ?y7) (fun a ha => ⟨ha, rfl⟩)
        case y7 =>
         refine sc_seq fun K12 hK12 => ?_
         refine sc_text [3, 3] ?_
         refine sr_pu rfl (fun _ => rd_seq (ev_t rfl) ev_c) ?_
         refine sr_pu rfl (fun _ => rd_assign (ev_t rfl)) ?_
         refine sr_sub [(2, _, _), (3, _, _), (4, _, _)] (sub_cons rfl (sub_cons rfl (sub_cons rfl (sub_nil _)))) ?_
         refine sr_nil (hK12 _ _ ?_)
         refine' sc_or [(2, _, _)] (sub_cons rfl (sub_cons rfl (sub_nil _))) rfl (fun hb8 => ?y8) (fun a ha => ⟨ha, rfl⟩)
         case y8 =>
          refine sc_seq fun K13 hK13 => ?_
          refine sc_text [3, 3] ?_
          refine sr_pu rfl (fun _ => rd_seq (ev_t rfl) ev_c) ?_
          refine sr_pu rfl (fun _ => rd_assign (ev_t rfl)) ?_
          refine sr_sub [(2, _, _), (3, _, _), (4, _, _)] (sub_cons rfl (sub_cons rfl (sub_cons rfl (sub_nil _)))) ?_
          refine sr_nil (hK13 _ _ ?_)
          refine' sc_or [(2, _, _)] (sub_cons rfl (sub_cons rfl (sub_nil _))) rfl (fun hb9 => ?y9) (fun a ha => ⟨ha, rfl⟩)
          case y9 =>
           refine sc_seq fun K14 hK14 => ?_
           refine sc_text [3, 3] ?_
           refine sr_pu rfl (fun _ => rd_seq (ev_t rfl) ev_c) ?_
           refine sr_pu rfl (fun _ => rd_assign (ev_t rfl)) ?_
           refine sr_sub [(2, _, _), (3, _, _), (4, _, _)] (sub_cons rfl (sub_cons rfl (sub_cons rfl (sub_nil _)))) ?_
           refine sr_nil (hK14 _ _ ?_)
           refine' sc_or [(2, _, _)] (sub_cons rfl (sub_cons rfl (sub_nil _))) rfl (fun hb10 => ?y10) (fun a ha => ⟨ha, rfl⟩)
           case y10 =>
            refine sc_seq fun K15 hK15 => ?_
            refine sc_text [3, 3] ?_
            refine sr_pu rfl (fun _ => rd_seq (ev_t rfl) ev_c) ?_
            refine sr_pu rfl (fun _ => rd_assign (ev_t rfl)) ?_
            refine sr_sub [(2, _, _), (3, _, _), (4, _, _)] (sub_cons rfl (sub_cons rfl (sub_cons rfl (sub_nil _)))) ?_
            refine sr_nil (hK15 _ _ ?_)
            refine' sc_or [(2, _, _)] (sub_cons rfl (sub_cons rfl (sub_nil _))) rfl (fun hb11 => ?y11) (fun a ha => ⟨ha, rfl⟩)
            case y11 =>
             refine sc_seq fun K16 hK16 => ?_
             refine sc_text [3, 3] ?_
             refine sr_pu rfl (fun _ => rd_seq (ev_t rfl) ev_c) ?_
             refine sr_pu rfl (fun _ => rd_assign (ev_t rfl)) ?_
             refine sr_sub [(2, _, _), (3, _, _), (4, _, _)] (sub_cons rfl (sub_cons rfl (sub_cons rfl (sub_nil _)))) ?_
             refine sr_nil (hK16 _ _ ?_)
             refine' sc_or [(2, _, _)] (sub_cons rfl (sub_cons rfl (sub_nil _))) rfl (fun hb12 => ?y12) (fun a ha => ⟨ha, rfl⟩)
             case y12 =>
              refine sc_seq fun K17 hK17 => ?_
              refine sc_text [3, 3] ?_
              refine sr_pu rfl (fun _ => rd_seq (ev_t rfl) ev_c) ?_
              refine sr_pu rfl (fun _ => rd_assign (ev_t rfl)) ?_
              refine sr_sub [(2, _, _), (3, _, _), (4, _, _)] (sub_cons rfl (sub_cons rfl (sub_cons rfl (sub_nil _)))) ?_
              refine sr_nil (hK17 _ _ ?_)
              refine' sc_or [(2, _, _)] (sub_cons rfl (sub_cons rfl (sub_nil _))) rfl (fun hb13 => ?y13) (fun a ha => ⟨ha, rfl⟩)
              case y13 =>
               refine sc_seq fun K18 hK18 => ?_
               refine sc_text [3, 3] ?_
               refine sr_pu rfl (fun _ => rd_seq (ev_t rfl) ev_c) ?_
               refine sr_pu rfl (fun _ => rd_assign (ev_t rfl)) ?_
               refine sr_sub [(2, _, _), (3, _, _), (4, _, _)] (sub_cons rfl (sub_cons rfl (sub_cons rfl (sub_nil _)))) ?_
               refine sr_nil (hK18 _ _ ?_)
               refine' sc_or [(2, _, _)] (sub_cons rfl (sub_cons rfl (sub_nil _))) rfl (fun hb14 => ?y14) (fun a ha => ⟨ha, rfl⟩)
               case y14 =>
                refine sc_seq fun K19 hK19 => ?_
                refine sc_text [3, 3] ?_
                refine sr_pu rfl (fun _ => rd_seq (ev_t rfl) ev_c) ?_
                refine sr_pu rfl (fun _ => rd_assign (ev_t rfl)) ?_
                refine sr_sub [(2, _, _), (3, _, _), (4, _, _)] (sub_cons rfl (sub_cons rfl (sub_cons rfl (sub_nil _)))) ?_
                refine sr_nil (hK19 _ _ ?_)
                refine' sc_or [(2, _, _)] (sub_cons rfl (sub_cons rfl (sub_nil _))) rfl (fun hb15 => ?y15) (fun a ha => ⟨ha, rfl⟩)
                case y15 =>
                 refine sc_seq fun K20 hK20 => ?_
                 refine sc_text [3, 3] ?_
                 refine sr_pu rfl (fun _ => rd_seq (ev_t rfl) ev_c) ?_
                 refine sr_pu rfl (fun _ => rd_assign (ev_t rfl)) ?_
                 refine sr_sub [(2, _, _), (3, _, _), (4, _, _)] (sub_cons rfl (sub_cons rfl (sub_cons rfl (sub_nil _)))) ?_
                 refine sr_nil (hK20 _ _ ?_)
                 refine' sc_or [(2, _, _)] (sub_cons rfl (sub_cons rfl (sub_nil _))) rfl (fun hb16 => ?y16) (fun a ha => ⟨ha, rfl⟩)
                 case y16 =>
                  refine sc_seq fun K21 hK21 => ?_
                  refine sc_text [3, 3] ?_
                  refine sr_pu rfl (fun _ => rd_seq (ev_t rfl) ev_c) ?_
                  refine sr_pu rfl (fun _ => rd_assign (ev_t rfl)) ?_
                  refine sr_sub [(2, _, _), (3, _, _), (4, _, _)] (sub_cons rfl (sub_cons rfl (sub_cons rfl (sub_nil _)))) ?_
                  refine sr_nil (hK21 _ _ ?_)
                  refine' sc_or [(2, _, _)] (sub_cons rfl (sub_cons rfl (sub_nil _))) rfl (fun hb17 => ?y17) (fun a ha => ⟨ha, rfl⟩)
                  case y17 =>
                   refine sc_seq fun K22 hK22 => ?_
                   refine sc_text [3, 3] ?_
                   refine sr_pu rfl (fun _ => rd_seq (ev_t rfl) ev_c) ?_
                   refine sr_pu rfl (fun _ => rd_assign (ev_t rfl)) ?_
                   refine sr_sub [(2, _, _), (3, _, _), (4, _, _)] (sub_cons rfl (sub_cons rfl (sub_cons rfl (sub_nil _)))) ?_
                   refine sr_nil (hK22 _ _ ?_)
                   refine' sc_or [(2, _, _)] (sub_cons rfl (sub_cons rfl (sub_nil _))) rfl (fun hb18 => ?y18) (fun a ha => ⟨ha, rfl⟩)
                   case y18 =>
                    refine sc_seq fun K23 hK23 => ?_
                    refine sc_text [3, 3] ?_
                    refine sr_pu rfl (fun _ => rd_seq (ev_t rfl) ev_c) ?_
                    refine sr_pu rfl (fun _ => rd_assign (ev_t rfl)) ?_
                    refine sr_sub [(2, _, _), (3, _, _), (4, _, _)] (sub_cons rfl (sub_cons rfl (sub_cons rfl (sub_nil _)))) ?_
                    refine sr_nil (hK23 _ _ ?_)
                    refine' sc_or [(2, _, _)] (sub_cons rfl (sub_cons rfl (sub_nil _))) rfl (fun hb19 => ?y19) (fun a ha => ⟨ha, rfl⟩)
                    case y19 =>
                     refine sc_seq fun K24 hK24 => ?_
                     refine sc_text [3, 3] ?_
                     refine sr_pu rfl (fun _ => rd_seq (ev_t rfl) ev_c) ?_
                     refine sr_pu rfl (fun _ => rd_assign (ev_t rfl)) ?_
                     refine sr_sub [(2, _, _), (3, _, _), (4, _, _)] (sub_cons rfl (sub_cons rfl (sub_cons rfl (sub_nil _)))) ?_
                     refine sr_nil (hK24 _ _ ?_)
                     refine' sc_or [(2, _, _)] (sub_cons rfl (sub_cons rfl (sub_nil _))) rfl (fun hb20 => ?y20) (fun a ha => ⟨ha, rfl⟩)
                     case y20 =>
                      refine sc_seq fun K25 hK25 => ?_
                      refine sc_text [3, 3] ?_
                      refine sr_pu rfl (fun _ => rd_seq (ev_t rfl) ev_c) ?_
                      refine sr_pu rfl (fun _ => rd_assign (ev_t rfl)) ?_
                      refine sr_sub [(2, _, _), (3, _, _), (4, _, _)] (sub_cons rfl (sub_cons rfl (sub_cons rfl (sub_nil _)))) ?_
                      refine sr_nil (hK25 _ _ ?_)
                      refine' sc_or [(2, _, _)] (sub_cons rfl (sub_cons rfl (sub_nil _))) rfl (fun hb21 => ?y21) (fun a ha => ⟨ha, rfl⟩)
                      case y21 =>
                       refine sc_seq fun K26 hK26 => ?_
                       refine sc_text [3, 3] ?_
                       refine sr_pu rfl (fun _ => rd_seq (ev_t rfl) ev_c) ?_
                       refine sr_pu rfl (fun _ => rd_assign (ev_t rfl)) ?_
                       refine sr_sub [(2, _, _), (3, _, _), (4, _, _)] (sub_cons rfl (sub_cons rfl (sub_cons rfl (sub_nil _)))) ?_
                       refine sr_nil (hK26 _ _ ?_)
                       refine' sc_or [(2, _, _)] (sub_cons rfl (sub_cons rfl (sub_nil _))) rfl (fun hb22 => ?y22) (fun a ha => ⟨ha, rfl⟩)
                       case y22 =>
                        refine sc_seq fun K27 hK27 => ?_
                        refine sc_text [3, 3] ?_
                        refine sr_pu rfl (fun _ => rd_seq (ev_t rfl) ev_c) ?_
                        refine sr_pu rfl (fun _ => rd_assign (ev_t rfl)) ?_
                        refine sr_sub [(2, _, _), (3, _, _), (4, _, _)] (sub_cons rfl (sub_cons rfl (sub_cons rfl (sub_nil _)))) ?_
                        refine sr_nil (hK27 _ _ ?_)
                        refine' sc_or [(2, _, _)] (sub_cons rfl (sub_cons rfl (sub_nil _))) rfl (fun hb23 => ?y23) (fun a ha => ⟨ha, rfl⟩)
                        case y23 =>
                         refine sc_seq fun K28 hK28 => ?_
                         refine sc_text [3, 3] ?_
                         refine sr_pu rfl (fun _ => rd_seq (ev_t rfl) ev_c) ?_
                         refine sr_pu rfl (fun _ => rd_assign (ev_t rfl)) ?_
                         refine sr_sub [(2, _, _), (3, _, _), (4, _, _)] (sub_cons rfl (sub_cons rfl (sub_cons rfl (sub_nil _)))) ?_
                         refine sr_nil (hK28 _ _ ?_)
                         refine' sc_or [(2, _, _)] (sub_cons rfl (sub_cons rfl (sub_nil _))) rfl (fun hb24 => ?y24) (fun a ha => ⟨ha, rfl⟩)
                         case y24 =>
                          refine sc_seq fun K29 hK29 => ?_
                          refine sc_text [3, 3] ?_
                          refine sr_pu rfl (fun _ => rd_seq (ev_t rfl) ev_c) ?_
                          refine sr_pu rfl (fun _ => rd_assign (ev_t rfl)) ?_
                          refine sr_sub [(2, _, _), (3, _, _), (4, _, _)] (sub_cons rfl (sub_cons rfl (sub_cons rfl (sub_nil _)))) ?_
                          refine sr_nil (hK29 _ _ ?_)
                          refine' sc_or [(2, _, _)] (sub_cons rfl (sub_cons rfl (sub_nil _))) rfl (fun hb25 => ?y25) (fun a ha => ⟨ha, rfl⟩)
                          case y25 =>
                           refine sc_seq fun K30 hK30 => ?_
                           refine sc_text [3, 3] ?_
                           refine sr_pu rfl (fun _ => rd_seq (ev_t rfl) ev_c) ?_
                           refine sr_pu rfl (fun _ => rd_assign (ev_t rfl)) ?_
                           refine sr_sub [(2, _, _), (3, _, _), (4, _, _)] (sub_cons rfl (sub_cons rfl (sub_cons rfl (sub_nil _)))) ?_
                           refine sr_nil (hK30 _ _ ?_)
                           refine' sc_or [(2, _, _)] (sub_cons rfl (sub_cons rfl (sub_nil _))) rfl (fun hb26 => ?y26) (fun a ha => ⟨ha, rfl⟩)
                           case y26 =>
                            refine sc_seq fun K31 hK31 => ?_
                            refine sc_text [3, 3] ?_
                            refine sr_pu rfl (fun _ => rd_seq (ev_t rfl) ev_c) ?_
                            refine sr_pu rfl (fun _ => rd_assign (ev_t rfl)) ?_
                            refine sr_sub [(2, _, _), (3, _, _), (4, _, _)] (sub_cons rfl (sub_cons rfl (sub_cons rfl (sub_nil _)))) ?_
                            refine sr_nil (hK31 _ _ ?_)
                            refine' sc_or [(2, _, _)] (sub_cons rfl (sub_cons rfl (sub_nil _))) rfl (fun hb27 => ?y27) (fun a ha => ⟨ha, rfl⟩)
                            case y27 =>
                             refine sc_seq fun K32 hK32 => ?_
                             refine sc_text [3, 3] ?_
                             refine sr_pu rfl (fun _ => rd_seq (ev_t rfl) ev_c) ?_
                             refine sr_pu rfl (fun _ => rd_assign (ev_t rfl)) ?_
                             refine sr_sub [(2, _, _), (3, _, _), (4, _, _)] (sub_cons rfl (sub_cons rfl (sub_cons rfl (sub_nil _)))) ?_
                             refine sr_nil (hK32 _ _ ?_)
                             refine' sc_or [(2, _, _)] (sub_cons rfl (sub_cons rfl (sub_nil _))) rfl (fun hb28 => ?y28) (fun a ha => ⟨ha, rfl⟩)
                             case y28 =>
                              refine sc_text [3, 3] ?_
                              refine sr_pu rfl (fun _ => rd_seq (ev_t rfl) ev_c) ?_
                              refine sr_pu rfl (fun _ => rd_assign (ev_t rfl)) ?_
                              refine sr_sub [(4, _, _), (2, _, _)] (sub_cons rfl (sub_cons rfl (sub_nil _))) ?_
                              exact sr_nil (fun a ha => ⟨ha, rfl⟩)
  case n1 =>
   refine sc_cond (ev_t rfl) (fun h29 => ?_) (fun h29 => ?_)
   · (try simp only [bsimp] at h29)
     refine sc_seq fun K33 hK33 => ?_
     refine sc_text [3] ?_
     refine sr_pu rfl (fun _ => rd_assign ev_c) ?_
     refine sr_sub [(2, _, _)] (sub_cons rfl (sub_nil _)) ?_
     refine sr_nil (hK33 _ _ ?_)
     refine sc_ret (t_ret1 rfl rfl ?_)
     refine ⟨?_, g⟩; simp only [inB, kws, List.any_cons, List.any_nil, Bool.or_false]; rw [h29]
   (try simp only [bsimp] at h29)
   refine sc_skip (hK2 _ _ ?_)
   refine sc_sub [(2, _, _)] (sub_cons rfl (sub_nil _)) ?_
   refine sc_seq fun K34 hK34 => ?_
   refine sc_text [3] ?_
   refine sr_pu rfl (fun _ => rd_assign ev_c) ?_
   refine sr_nil (hK34 _ _ ?_)
   refine sc_ret (t_ret1 rfl rfl ?_)
   refine ⟨?_, g⟩; simp only [inB, kws, List.any_cons, List.any_nil, Bool.or_false]; rw [h29]
theorem ending_ok (s : List UInt8) (w : World) : Ret PP fn_scan_ending #[Str s] w fun v w' => v = .bool (inB endw s) ∧ G w w' := by
  have g := G.refl w
  refine ret_of_sc (m := 19) func_scan_ending rfl rfl [(0, True, _)] (sub_cons rfl (sub_nil _)) ?_
  refine sc_seq fun K1 hK1 => ?_
  refine sc_text [3] ?_
  refine sr_pu rfl (fun _ => rd_assign ev_c) ?_
  refine sr_nil (hK1 _ _ ?_)
  refine sc_seq fun K2 hK2 => ?_
  refine sc_seq fun K3 hK3 => ?_
  refine sc_text [3] ?_
  refine sr_pu rfl (fun _ => rd_move (ev_t rfl)) ?_
  refine sr_sub [(2, _, _), (3, _, _)] (sub_cons rfl (sub_cons rfl (sub_nil _))) ?_
  refine sr_nil (hK3 _ _ ?_)
  refine sc_block ?_
  refine sc_seq fun K4 hK4 => ?_
  refine sc_seq fun K5 hK5 => ?_
  refine sc_text [3, 3] ?_
  refine sr_pu rfl (fun _ => rd_seq (ev_t rfl) ev_c) ?_
  refine sr_pu rfl (fun _ => rd_assign (ev_t rfl)) ?_
  refine sr_sub [(2, _, _), (3, _, _), (4, _, _)] (sub_cons rfl (sub_cons rfl (sub_cons rfl (sub_nil _)))) ?_
  refine sr_nil (hK5 _ _ ?_)
  refine' sc_or [(2, _, _)] (sub_cons rfl (sub_cons rfl (sub_nil _))) rfl (fun hb1 => ?y1) (hK4 _ _ ?n1)
  case y1 =>
   refine sc_seq fun K6 hK6 => ?_
   refine sc_text [3, 3] ?_
   refine sr_pu rfl (fun _ => rd_seq (ev_t rfl) ev_c) ?_
   refine sr_pu rfl (fun _ => rd_assign (ev_t rfl)) ?_
   refine sr_sub [(2, _, _), (3, _, _), (4, _, _)] (sub_cons rfl (sub_cons rfl (sub_cons rfl (sub_nil _)))) ?_
   refine sr_nil (hK6 _ _ ?_)
   refine' sc_or [(2, _, _)] (sub_cons rfl (sub_cons rfl (sub_nil _))) rfl (fun hb2 => ?y2) (fun a ha => ⟨ha, rfl⟩)
   case y2 =>
    refine sc_seq fun K7 hK7 => ?_
    refine sc_text [3, 3] ?_
    refine sr_pu rfl (fun _ => rd_seq (ev_t rfl) ev_c) ?_
    refine sr_pu rfl (fun _ => rd_assign (ev_t rfl)) ?_
    refine sr_sub [(2, _, _), (3, _, _), (4, _, _)] (sub_cons rfl (sub_cons rfl (sub_cons rfl (sub_nil _)))) ?_
    refine sr_nil (hK7 _ _ ?_)
    refine' sc_or [(2, _, _)] (sub_cons rfl (sub_cons rfl (sub_nil _))) rfl (fun hb3 => ?y3) (fun a ha => ⟨ha, rfl⟩)
    case y3 =>
     refine sc_seq fun K8 hK8 => ?_
     refine sc_text [3, 3] ?_
     refine sr_pu rfl (fun _ => rd_seq (ev_t rfl) ev_c) ?_
     refine sr_pu rfl (fun _ => rd_assign (ev_t rfl)) ?_
     refine sr_sub [(2, _, _), (3, _, _), (4, _, _)] (sub_cons rfl (sub_cons rfl (sub_cons rfl (sub_nil _)))) ?_
     refine sr_nil (hK8 _ _ ?_)
     refine' sc_or [(2, _, _)] (sub_cons rfl (sub_cons rfl (sub_nil _))) rfl (fun hb4 => ?y4) (fun a ha => ⟨ha, rfl⟩)
     case y4 =>
      refine sc_seq fun K9 hK9 => ?_
      refine sc_text [3, 3] ?_
      refine sr_pu rfl (fun _ => rd_seq (ev_t rfl) ev_c) ?_
      refine sr_pu rfl (fun _ => rd_assign (ev_t rfl)) ?_
      refine sr_sub [(2, _, _), (3, _, _), (4, _, _)] (sub_cons rfl (sub_cons rfl (sub_cons rfl (sub_nil _)))) ?_
      refine sr_nil (hK9 _ _ ?_)
      refine' sc_or [(2, _, _)] (sub_cons rfl (sub_cons rfl (sub_nil _))) rfl (fun hb5 => ?y5) (fun a ha => ⟨ha, rfl⟩)
      case y5 =>
       refine sc_seq fun K10 hK10 => ?_
       refine sc_text [3, 3] ?_
       refine sr_pu rfl (fun _ => rd_seq (ev_t rfl) ev_c) ?_
       refine sr_pu rfl (fun _ => rd_assign (ev_t rfl)) ?_
       refine sr_sub [(2, _, _), (3, _, _), (4, _, _)] (sub_cons rfl (sub_cons rfl (sub_cons rfl (sub_nil _)))) ?_
       refine sr_nil (hK10 _ _ ?_)
       refine' sc_or [(2, _, _)] (sub_cons rfl (sub_cons rfl (sub_nil _))) rfl (fun hb6 => ?y6) (fun a ha => ⟨ha, rfl⟩)
       case y6 =>
        refine sc_seq fun K11 hK11 => ?_
        refine sc_text [3, 3] ?_
        refine sr_pu rfl (fun _ => rd_seq (ev_t rfl) ev_c) ?_
        refine sr_pu rfl (fun _ => rd_assign (ev_t rfl)) ?_
        refine sr_sub [(2, _, _), (3, _, _), (4, _, _)] (sub_cons rfl (sub_cons rfl (sub_cons rfl (sub_nil _)))) ?_
        refine sr_nil (hK11 _ _ ?_)
        refine' sc_or [(2, _, _)] (sub_cons rfl (sub_cons rfl (sub_nil _))) rfl (fun hb7 => ?y7) (fun a ha => ⟨ha, rfl⟩)
        case y7 =>
         refine sc_seq fun K12 hK12 => ?_
         refine sc_text [3, 3] ?_
         refine sr_pu rfl (fun _ => rd_seq (ev_t rfl) ev_c) ?_
         refine sr_pu rfl (fun _ => rd_assign (ev_t rfl)) ?_
         refine sr_sub [(2, _, _), (3, _, _), (4, _, _)] (sub_cons rfl (sub_cons rfl (sub_cons rfl (sub_nil _)))) ?_
         refine sr_nil (hK12 _ _ ?_)
         refine' sc_or [(2, _, _)] (sub_cons rfl (sub_cons rfl (sub_nil _))) rfl (fun hb8 => ?y8) (fun a ha => ⟨ha, rfl⟩)
         case y8 =>
          refine sc_seq fun K13 hK13 => ?_
          refine sc_text [3, 3] ?_
          refine sr_pu rfl (fun _ => rd_seq (ev_t rfl) ev_c) ?_
          refine sr_pu rfl (fun _ => rd_assign (ev_t rfl)) ?_
          refine sr_sub [(2, _, _), (3, _, _), (4, _, _)] (sub_cons rfl (sub_cons rfl (sub_cons rfl (sub_nil _)))) ?_
          refine sr_nil (hK13 _ _ ?_)
          refine' sc_or [(2, _, _)] (sub_cons rfl (sub_cons rfl (sub_nil _))) rfl (fun hb9 => ?y9) (fun a ha => ⟨ha, rfl⟩)
          case y9 =>
           refine sc_seq fun K14 hK14 => ?_
           refine sc_text [3, 3] ?_
           refine sr_pu rfl (fun _ => rd_seq (ev_t rfl) ev_c) ?_
           refine sr_pu rfl (fun _ => rd_assign (ev_t rfl)) ?_
           refine sr_sub [(2, _, _), (3, _, _), (4, _, _)] (sub_cons rfl (sub_cons rfl (sub_cons rfl (sub_nil _)))) ?_
           refine sr_nil (hK14 _ _ ?_)
           refine' sc_or [(2, _, _)] (sub_cons rfl (sub_cons rfl (sub_nil _))) rfl (fun hb10 => ?y10) (fun a ha => ⟨ha, rfl⟩)
           case y10 =>
            refine sc_seq fun K15 hK15 => ?_
            refine sc_text [3, 3] ?_
            refine sr_pu rfl (fun _ => rd_seq (ev_t rfl) ev_c) ?_
            refine sr_pu rfl (fun _ => rd_assign (ev_t rfl)) ?_
            refine sr_sub [(2, _, _), (3, _, _), (4, _, _)] (sub_cons rfl (sub_cons rfl (sub_cons rfl (sub_nil _)))) ?_
            refine sr_nil (hK15 _ _ ?_)
            refine' sc_or [(2, _, _)] (sub_cons rfl (sub_cons rfl (sub_nil _))) rfl (fun hb11 => ?y11) (fun a ha => ⟨ha, rfl⟩)
            case y11 =>
             refine sc_seq fun K16 hK16 => ?_
             refine sc_text [3, 3] ?_
             refine sr_pu rfl (fun _ => rd_seq (ev_t rfl) ev_c) ?_
             refine sr_pu rfl (fun _ => rd_assign (ev_t rfl)) ?_
             refine sr_sub [(2, _, _), (3, _, _), (4, _, _)] (sub_cons rfl (sub_cons rfl (sub_cons rfl (sub_nil _)))) ?_
             refine sr_nil (hK16 _ _ ?_)
             refine' sc_or [(2, _, _)] (sub_cons rfl (sub_cons rfl (sub_nil _))) rfl (fun hb12 => ?y12) (fun a ha => ⟨ha, rfl⟩)
             case y12 =>
              refine sc_seq fun K17 hK17 => ?_
              refine sc_text [3, 3] ?_
              refine sr_pu rfl (fun _ => rd_seq (ev_t rfl) ev_c) ?_
              refine sr_pu rfl (fun _ => rd_assign (ev_t rfl)) ?_
              refine sr_sub [(2, _, _), (3, _, _), (4, _, _)] (sub_cons rfl (sub_cons rfl (sub_cons rfl (sub_nil _)))) ?_
              refine sr_nil (hK17 _ _ ?_)
              refine' sc_or [(2, _, _)] (sub_cons rfl (sub_cons rfl (sub_nil _))) rfl (fun hb13 => ?y13) (fun a ha => ⟨ha, rfl⟩)
              case y13 =>
               refine sc_text [3, 3] ?_
               refine sr_pu rfl (fun _ => rd_seq (ev_t rfl) ev_c) ?_
               refine sr_pu rfl (fun _ => rd_assign (ev_t rfl)) ?_
               refine sr_sub [(4, _, _), (2, _, _)] (sub_cons rfl (sub_cons rfl (sub_nil _))) ?_
               exact sr_nil (fun a ha => ⟨ha, rfl⟩)
  case n1 =>
   refine sc_cond (ev_t rfl) (fun h14 => ?_) (fun h14 => ?_)
   · (try simp only [bsimp] at h14)
     refine sc_seq fun K18 hK18 => ?_
     refine sc_text [3] ?_
     refine sr_pu rfl (fun _ => rd_assign ev_c) ?_
     refine sr_sub [(2, _, _)] (sub_cons rfl (sub_nil _)) ?_
     refine sr_nil (hK18 _ _ ?_)
     refine sc_ret (t_ret1 rfl rfl ?_)
     refine ⟨?_, g⟩; simp only [inB, endw, List.any_cons, List.any_nil, Bool.or_false]; rw [h14]
   (try simp only [bsimp] at h14)
   refine sc_skip (hK2 _ _ ?_)
   refine sc_sub [(2, _, _)] (sub_cons rfl (sub_nil _)) ?_
   refine sc_seq fun K19 hK19 => ?_
   refine sc_text [3] ?_
   refine sr_pu rfl (fun _ => rd_assign ev_c) ?_
   refine sr_nil (hK19 _ _ ?_)
   refine sc_ret (t_ret1 rfl rfl ?_)
   refine ⟨?_, g⟩; simp only [inB, endw, List.any_cons, List.any_nil, Bool.or_false]; rw [h14]
end Go.Rk
namespace Go.Rk
open Go Go.RowKit
def preB (p s : List UInt8) : Bool := decide (p.length ≤ s.length) && decide (s.take p.length = p)
theorem hasprefix_ok (s p : List UInt8) (w : World) : Ret PP fn_internal_stringslite_HasPrefix #[Str s, Str p] w fun v w' => v = .bool (preB p s) ∧ G w w' := by
  have g := G.refl w
  refine ret_of_sc (m := 18) func_internal_stringslite_HasPrefix rfl rfl [(0, True, _), (1, True, _)] (sub_cons rfl (sub_cons rfl (sub_nil _))) ?_
  refine sc_seq fun K1 hK1 => ?_
  refine sc_text [3] ?_
  refine sr_pu rfl (fun _ => rd_assign ev_c) ?_
  refine sr_nil (hK1 _ _ ?_)
  refine sc_seq fun K2 hK2 => ?_
  refine sc_text [3, 3, 3, 3, 3, 3, 3, 3, 3, 3, 3, 3, 3, 3] ?_
  refine sr_pu rfl (fun _ => rd_move (ev_t rfl)) ?_
  refine sr_pu rfl (fun _ => rd_slen str_string (ev_t rfl)) ?_
  refine sr_pu rfl (fun _ => rd_move (ev_t rfl)) ?_
  refine sr_pu rfl (fun _ => rd_slen str_string (ev_t rfl)) ?_
  refine sr_pu rfl (fun _ => rd_ge (ev_t rfl) (ev_t rfl)) ?_
  refine sr_pu rfl (fun _ => rd_move (ev_t rfl)) ?_
  refine sr_pug rfl rfl rfl (fun _ => rd_move (ev_t rfl)) ?_
  refine sr_pug rfl rfl rfl (fun _ => rd_move (ev_t rfl)) ?_
  refine sr_pug rfl rfl rfl (fun _ => rd_slen str_string (ev_u rfl id)) ?_
  refine sr_pug rfl rfl rfl (fun _ => rd_ssl_to str_string (ev_u rfl id) (ev_u rfl id) (fun hc => ⟨by omega, by have := of_decide_eq_true hc.2; omega⟩)) ?_
  refine sr_pug rfl rfl rfl (fun _ => rd_move (ev_t rfl)) ?_
  refine sr_pug rfl rfl rfl (fun _ => rd_seq (ev_u rfl id) (ev_u rfl id)) ?_
  refine sr_pu rfl (fun _ => rd_pick_and (ev_t rfl) (ev_u rfl id)) ?_
  refine sr_pu rfl (fun _ => rd_assign (ev_t rfl)) ?_
  refine sr_sub [(4, _, _)] (sub_cons rfl (sub_nil _)) ?_
  refine sr_nil (hK2 _ _ ?_)
  refine sc_ret (t_ret1 rfl rfl ?_)
  refine ⟨?_, g⟩; unfold preB; simp
theorem shasprefix_ok (s p : List UInt8) (w : World) : Ret PP fn_strings_HasPrefix #[Str s, Str p] w fun v w' => v = .bool (preB p s) ∧ G w w' := by
  have g := G.refl w
  refine ret_of_sc (m := 8) func_strings_HasPrefix rfl rfl [(0, True, _), (1, True, _)] (sub_cons rfl (sub_cons rfl (sub_nil _))) ?_
  refine sc_seq fun K1 hK1 => ?_
  refine sc_text [3] ?_
  refine sr_pu rfl (fun _ => rd_assign ev_c) ?_
  refine sr_nil (hK1 _ _ ?_)
  refine sc_seq fun K2 hK2 => ?_
  refine sc_text [3, 3, 1, 3] ?_
  refine sr_pu rfl (fun _ => rd_move (ev_t rfl)) ?_
  refine sr_pu rfl (fun _ => rd_move (ev_t rfl)) ?_
  refine sr_pure rfl (rc_call go_internal_stringslite_HasPrefix ev_f (args_cons (ev_t rfl) (args_cons (ev_t rfl) (args_nil))) rfl) (hasprefix_ok _ _ _) (fun w7 g7 => ?_)
  have g := g.trans (g7)
  refine sr_pu rfl (fun _ => rd_assign (ev_t rfl)) ?_
  refine sr_sub [(4, _, _)] (sub_cons rfl (sub_nil _)) ?_
  refine sr_nil (hK2 _ _ ?_)
  refine sc_ret (t_ret1 rfl rfl ?_)
  exact ⟨rfl, g⟩

structure Tok where
  kind : Int
  text : List UInt8
  pos : Int
def tokCells (t : Tok) : List Value := [.int .i64 t.kind, Str t.text, .int .i64 t.pos]
def toksCells (l : List Tok) : List Value := l.flatMap tokCells
theorem toksCells_length (l : List Tok) : (toksCells l).length = l.length * 3 := by
  unfold toksCells
  induction l with
  | nil => rfl
  | cons t l ih => rw [List.flatMap_cons, List.length_append, ih]; simp [tokCells]; omega
theorem toksCells_snoc (l : List Tok) (t : Tok) : toksCells (l ++ [t]) = toksCells l ++ tokCells t := by simp [toksCells]
/-- The scanner's state in block b: the text, the place, the tokens, the comments. -/
def Scn (base b : Nat) (s : List UInt8) (p : Nat) (ts cs : List Tok) (w : World) : Prop :=
  ∃ ta tc ca cc, Blk w b ty_scan_scanner [Str s, .int .i64 p, .slice ta ts.length tc, .slice ca cs.length cc] ∧ base ≤ b ∧ w.ownsRow base ty_api_Token 3 (.slice ta ts.length tc) ts.length (toksCells ts) ∧
    w.ownsRow base ty_api_Token 3 (.slice ca cs.length cc) cs.length (toksCells cs) ∧ (Value.slice ta ts.length tc).ownBlock ≠ some b ∧ (Value.slice ca cs.length cc).ownBlock ≠ some b ∧
    (∀ k, (Value.slice ta ts.length tc).ownBlock = some k → (Value.slice ca cs.length cc).ownBlock ≠ some k) ∧ ts.length ≤ p ∧ cs.length ≤ p ∧ p ≤ s.length ∧ s.length ≤ 20000

/-- How two rows stay apart where the first one grows. -/
theorem apart_append {w : World} {base : Nat} {e : TypeId} {z : Nat} {tv tv' cv : Value} {m : Nat} {xs : List Value} (hc : w.ownsRow base e z cv m xs) (n3 : ∀ k, tv.ownBlock = some k → cv.ownBlock ≠ some k)
    (hat : tv'.ownBlock = tv.ownBlock ∨ tv'.ownBlock = some w.heap.size) : ∀ k, tv'.ownBlock = some k → cv.ownBlock ≠ some k := by
  intro k hk
  rcases hat with e | e
  · exact n3 k (e ▸ hk)
  · rw [e] at hk; injection hk with hk; subst hk; exact own_ne hc (Nat.le_refl _)
theorem apart_blk {w : World} {b : Nat} {tv tv' : Value} (hb : b < w.heap.size) (n1 : tv.ownBlock ≠ some b) (hat : tv'.ownBlock = tv.ownBlock ∨ tv'.ownBlock = some w.heap.size) : tv'.ownBlock ≠ some b := by
  rcases hat with e | e <;> rw [e]
  · exact n1
  · intro h; injection h with h; omega
theorem apart_row {w w' : World} {base : Nat} {e : TypeId} {z : Nat} {tv cv : Value} {m : Nat} {xs : List Value} (hc : w.ownsRow base e z cv m xs) (n3 : ∀ k, tv.ownBlock = some k → cv.ownBlock ≠ some k) (hg : w.grownBy w' tv.ownBlock) : w'.ownsRow base e z cv m xs :=
  own_keep hc hg (by rcases hq : cv.ownBlock with _ | k; exact .inl rfl; exact .inr (fun he => n3 k he.symm hq))

theorem put_ok (base b : Nat) (s : List UInt8) (p : Nat) (ts cs : List Tok) (kind : Int) (size : Nat) (w : World) (hs : Scn base b s p ts cs w) (h1 : 1 ≤ size) (h2 : p + size ≤ s.length) :
    Ret PP fn_scan_scanner_put #[.pointer (some ⟨b, 0, none⟩), .int .i64 kind, .int .i64 size] w fun v w' => v = .tuple #[] ∧ Scn base b s (p + size) (ts ++ [⟨kind, (s.drop p).take size, p⟩]) cs w' ∧ Below base w w' := by
  obtain ⟨ta, tc, ca, cc, hB, hb0, ht, hc, n1, n2, n3, k1, k2, k3, k4⟩ := hs
  have hb : Below base w w := Below.refl _ _
  have hlt := hB.lt
  refine ret_of_sc (m := 44) func_scan_scanner_put rfl rfl [(0, True, _), (1, True, _), (2, True, _)] (sub_cons rfl (sub_cons rfl (sub_cons rfl (sub_nil _)))) ?_
  refine sc_seq fun K1 hK1 => ?_
  refine sc_draw [3, 3, 3, 3, 0, 3, 3, 3, 3, 0, 3, 3, 3, 0, 3, 3, 3, 0, 3, 3, 3, 3, 3, 3, 0, 3, 1, 2, 3, 3, 2] [true, true, true, true, true, true, true, true, true, true, true, true, true, true, true, true, true, true, true, true, true, true, true, true, true, true, true, true, true, true, true] [0, 0, 2, 6, 14, 0, 0, 64, 192, 448, 0, 1024, 3072, 7168, 0, 16384, 49152, 114688, 0, 507904, 1048512, 0, 2097152, 6291456, 14680064, 33554400, 67108832, 134217726, 268435455, 536870911, 1073741823] mix (by kernel_rfl) ?_
  have hb := hb.drew
  have hB : Blk w.drew _ _ _ := hB
  have ht := own_drew ht
  have hc := own_drew hc
  refine sr_pu rfl (fun _ => rd_move (ev_t rfl)) ?_
  refine sr_pu rfl (fun _ => rd_move (ev_t rfl)) ?_
  refine sr_pu rfl (fun _ => rd_nil (ev_t rfl)) ?_
  refine sr_pu rfl (fun _ => rd_field fo_scan_scanner_2 (ev_t rfl)) ?_
  refine sr_rd rfl (rd_load one_sl_api_Token (ev_t rfl) (fun _ => hB.at_ rfl)) ?_
  refine sr_pu rfl (fun _ => rd_move (ev_t rfl)) ?_
  refine sr_pu rfl (fun _ => rd_move (ev_t rfl)) ?_
  refine sr_pu rfl (fun _ => rd_nil (ev_t rfl)) ?_
  refine sr_pu rfl (fun _ => rd_field fo_scan_scanner_0 (ev_t rfl)) ?_
  refine sr_rd rfl (rd_load one_string (ev_t rfl) (fun _ => hB.at_ rfl)) ?_
  refine sr_pu rfl (fun _ => rd_move (ev_t rfl)) ?_
  refine sr_pu rfl (fun _ => rd_nil (ev_t rfl)) ?_
  refine sr_pu rfl (fun _ => rd_field fo_scan_scanner_1 (ev_t rfl)) ?_
  refine sr_rd rfl (rd_load one_int (ev_t rfl) (fun _ => hB.at_ rfl)) ?_
  refine sr_pu rfl (fun _ => rd_move (ev_t rfl)) ?_
  refine sr_pu rfl (fun _ => rd_nil (ev_t rfl)) ?_
  refine sr_pu rfl (fun _ => rd_field fo_scan_scanner_1 (ev_t rfl)) ?_
  refine sr_rd rfl (rd_load one_int (ev_t rfl) (fun _ => hB.at_ rfl)) ?_
  refine sr_pu rfl (fun _ => rd_move (ev_t rfl)) ?_
  refine sr_pu rfl (fun _ => rd_add (ev_t rfl) (ev_t rfl) (fun _ => by omega)) ?_
  refine sr_pu rfl (fun _ => rd_ssl str_string (ev_t rfl) (ev_t rfl) (ev_t rfl) (fun _ => by omega)) ?_
  refine sr_pu rfl (fun _ => rd_move (ev_t rfl)) ?_
  refine sr_pu rfl (fun _ => rd_nil (ev_t rfl)) ?_
  refine sr_pu rfl (fun _ => rd_field fo_scan_scanner_1 (ev_t rfl)) ?_
  refine sr_rd rfl (rd_load one_int (ev_t rfl) (fun _ => hB.at_ rfl)) ?_
  refine sr_pu rfl (fun _ => rd_build [_, _, _] ze_api_Token rfl pl_api_Token (parts_cons (ev_t rfl) (parts_cons (ev_t rfl) (parts_cons (ev_t rfl) (parts_nil)))) rfl) ?_
  refine sr_buildSlice [_, _, _] rfl el_sl_api_Token ze_api_Token (parts_cons (ev_t rfl) (parts_nil)) rfl rfl ?_
  intro b32 w32 N32
  have hb := hb.trans (below_g N32.g (by show base ≤ w.heap.size; omega))
  have hB := hB.grow N32.g
  have ht := own_grow ht N32.g
  have hc := own_grow hc N32.g
  have hlt := hB.lt
  have B32 := N32.blk
  refine sr_append rfl el_sl_api_Token ze_api_Token rfl (by decide) (ev_t rfl) ht (ev_t rfl) rfl N32.blk.row rfl (by simp only [maxLen]; omega) (by omega) (by omega) ?_
  intro ta' tc' w33 ht' hg hat
  have hb := below_only hb hg (by omega) (fun k hk => (ht.lt k hk).1)
  have hB := hB.keep hg (Ne.symm n1)
  have n3' := apart_append hc n3 hat
  have hc := apart_row hc n3 hg
  have n3 := n3'
  have n1 := apart_blk hlt n1 hat
  refine sr_pu rfl (fun _ => rd_nil (ev_t rfl)) ?_
  refine sr_pu rfl (fun _ => rd_field fo_scan_scanner_2 (ev_t rfl)) ?_
  refine sr_store rfl sz_sl_api_Token (ev_t rfl) (ev_t rfl) rfl rfl hB rfl rfl ?_
  intro w34 hg2 hz2 hB
  have hb := below_only hb hg2 (by have := hb.size; omega) (fun k hk => by injection hk with hk; omega)
  have ht' := own_keep ht' hg2 (.inr n1)
  have hc := own_keep hc hg2 (.inr n2)
  refine sr_sub [(0, _, _), (2, _, _)] (sub_cons rfl (sub_cons rfl (sub_nil _))) ?_
  refine sr_nil (hK1 _ _ ?_)
  refine sc_text [3, 3, 3, 0, 3, 3, 3, 3, 2] ?_
  refine sr_pu rfl (fun _ => rd_move (ev_t rfl)) ?_
  refine sr_pu rfl (fun _ => rd_nil (ev_t rfl)) ?_
  refine sr_pu rfl (fun _ => rd_field fo_scan_scanner_1 (ev_t rfl)) ?_
  refine sr_rd rfl (rd_load one_int (ev_t rfl) (fun _ => hB.at_ rfl)) ?_
  refine sr_pu rfl (fun _ => rd_move (ev_t rfl)) ?_
  refine sr_pu rfl (fun _ => rd_add (ev_t rfl) (ev_t rfl) (fun _ => by omega)) ?_
  refine sr_pu rfl (fun _ => rd_nil (ev_t rfl)) ?_
  refine sr_pu rfl (fun _ => rd_field fo_scan_scanner_1 (ev_t rfl)) ?_
  refine sr_store rfl sz_int (ev_t rfl) (ev_t rfl) rfl rfl hB rfl rfl ?_
  intro w44 hg3 hz3 hB
  have hb := below_only hb hg3 (by have := hb.size; omega) (fun k hk => by injection hk with hk; omega)
  have ht' := own_keep ht' hg3 (.inr n1)
  have hc := own_keep hc hg3 (.inr n2)
  refine sr_sub [] (sub_nil _) ?_
  refine sr_nil (t_end0 rfl ?_)
  have e : ((p : Int) + size).toNat - (p : Int).toNat = size := by omega
  rw [e] at ht'
  have hl : (ts ++ [(⟨kind, (s.drop p).take size, p⟩ : Tok)]).length = ts.length + 1 := by simp
  refine ⟨rfl, ⟨ta', tc', ca, cc, ?_, hb0, ?_, hc, ?_, n2, ?_, ?_, by omega, h2, k4⟩, hb⟩ <;> rw [hl]
  · exact hB
  · rw [toksCells_snoc]; exact ht'
  · exact n1
  · exact n3
  · omega
end Go.Rk
namespace Go.Rk
open Go Go.RowKit
/-- The scanner's state with its rows' headers. -/
structure SA (base b : Nat) (s : List UInt8) (p : Nat) (ts cs : List Tok) (ta : Option Addr) (tc : Nat) (ca : Option Addr) (cc : Nat) (w : World) : Prop where
  B : Blk w b ty_scan_scanner [Str s, .int .i64 p, .slice ta ts.length tc, .slice ca cs.length cc]
  hb : base ≤ b
  ht : w.ownsRow base ty_api_Token 3 (.slice ta ts.length tc) ts.length (toksCells ts)
  hc : w.ownsRow base ty_api_Token 3 (.slice ca cs.length cc) cs.length (toksCells cs)
  n1 : (Value.slice ta ts.length tc).ownBlock ≠ some b
  n2 : (Value.slice ca cs.length cc).ownBlock ≠ some b
  n3 : ∀ k, (Value.slice ta ts.length tc).ownBlock = some k → (Value.slice ca cs.length cc).ownBlock ≠ some k
theorem SA.grow {base b : Nat} {s : List UInt8} {p : Nat} {ts cs : List Tok} {ta : Option Addr} {tc : Nat} {ca : Option Addr} {cc : Nat} {w w1 : World} (h : SA base b s p ts cs ta tc ca cc w) (g : G w w1) : SA base b s p ts cs ta tc ca cc w1 :=
  { h with B := h.B.grow g, ht := own_grow h.ht g, hc := own_grow h.hc g }
theorem SA.scn {base b : Nat} {s : List UInt8} {p : Nat} {ts cs : List Tok} {ta : Option Addr} {tc : Nat} {ca : Option Addr} {cc : Nat} {w : World} (h : SA base b s p ts cs ta tc ca cc w) (k1 : ts.length ≤ p) (k2 : cs.length ≤ p) (k3 : p ≤ s.length) (k4 : s.length ≤ 20000) : Scn base b s p ts cs w :=
  ⟨ta, tc, ca, cc, h.B, h.hb, h.ht, h.hc, h.n1, h.n2, h.n3, k1, k2, k3, k4⟩
theorem Scn.sa {base b : Nat} {s : List UInt8} {p : Nat} {ts cs : List Tok} {w : World} (h : Scn base b s p ts cs w) : ∃ ta tc ca cc, SA base b s p ts cs ta tc ca cc w ∧ ts.length ≤ p ∧ cs.length ≤ p ∧ p ≤ s.length ∧ s.length ≤ 20000 := by
  obtain ⟨ta, tc, ca, cc, hB, hb0, ht, hc, n1, n2, n3, k1, k2, k3, k4⟩ := h
  exact ⟨ta, tc, ca, cc, ⟨hB, hb0, ht, hc, n1, n2, n3⟩, k1, k2, k3, k4⟩
theorem SA.base_le {base b : Nat} {s : List UInt8} {p : Nat} {ts cs : List Tok} {ta : Option Addr} {tc : Nat} {ca : Option Addr} {cc : Nat} {w : World} (h : SA base b s p ts cs ta tc ca cc w) : base ≤ w.heap.size := by have := h.hb; have := h.B.lt; omega
theorem SA.setp {base b : Nat} {s : List UInt8} {p q : Nat} {ts cs : List Tok} {ta : Option Addr} {tc : Nat} {ca : Option Addr} {cc : Nat} {w w1 : World} (h : SA base b s p ts cs ta tc ca cc w) (hg : w.grownBy w1 (some b))
    (hB : Blk w1 b ty_scan_scanner [Str s, .int .i64 q, .slice ta ts.length tc, .slice ca cs.length cc]) : SA base b s q ts cs ta tc ca cc w1 :=
  { h with B := hB, ht := own_keep h.ht hg (.inr h.n1), hc := own_keep h.hc hg (.inr h.n2) }
theorem below_go {base b : Nat} {a wk w1 w2 : World} (hb : Below base a wk) (g : G wk w1) (hg : w1.grownBy w2 (some b)) (hz : base ≤ wk.heap.size) (h : base ≤ b) : Below base a w2 := by
  have := g.size
  exact below_only (hb.trans (below_g g hz)) hg (by omega) (fun k hk => by injection hk with hk; omega)
theorem Scn.grow {base b : Nat} {s : List UInt8} {p : Nat} {ts cs : List Tok} {w w1 : World} (h : Scn base b s p ts cs w) (g : G w w1) : Scn base b s p ts cs w1 := by
  obtain ⟨ta, tc, ca, cc, h, k1, k2, k3, k4⟩ := h.sa
  exact (h.grow g).scn k1 k2 k3 k4
/-- A token is appended to the tokens, and stored. -/
theorem SA.putT {base b : Nat} {s : List UInt8} {p : Nat} {ts cs : List Tok} {ta : Option Addr} {tc : Nat} {ca : Option Addr} {cc : Nat} {w w1 w2 : World} {ta' : Option Addr} {tc' : Nat} {t : Tok} (h : SA base b s p ts cs ta tc ca cc w)
    (h1 : w1.ownsRow base ty_api_Token 3 (.slice ta' (ts.length + 1) tc') (ts.length + 1) (toksCells ts ++ tokCells t)) (hg : w.grownBy w1 (Value.slice ta ts.length tc).ownBlock)
    (hat : (Value.slice ta' (ts.length + 1) tc').ownBlock = (Value.slice ta ts.length tc).ownBlock ∨ (Value.slice ta' (ts.length + 1) tc').ownBlock = some w.heap.size) (hg2 : w1.grownBy w2 (some b))
    (hB : Blk w2 b ty_scan_scanner [Str s, .int .i64 p, .slice ta' (ts.length + 1) tc', .slice ca cs.length cc]) : SA base b s p (ts ++ [t]) cs ta' tc' ca cc w2 := by
  have n1 := apart_blk h.B.lt h.n1 hat
  have hl : (ts ++ [t]).length = ts.length + 1 := by simp
  have hc := apart_row h.hc h.n3 hg
  refine ⟨by rw [hl]; exact hB, h.hb, ?_, own_keep hc hg2 (.inr h.n2), by rw [hl]; exact n1, h.n2, ?_⟩
  · rw [hl, toksCells_snoc]; exact own_keep h1 hg2 (.inr n1)
  · rw [hl]; exact apart_append h.hc h.n3 hat
/-- A comment is appended to the comments, and stored. -/
theorem SA.putC {base b : Nat} {s : List UInt8} {p : Nat} {ts cs : List Tok} {ta : Option Addr} {tc : Nat} {ca : Option Addr} {cc : Nat} {w w1 w2 : World} {ca' : Option Addr} {cc' : Nat} {t : Tok} (h : SA base b s p ts cs ta tc ca cc w)
    (h1 : w1.ownsRow base ty_api_Token 3 (.slice ca' (cs.length + 1) cc') (cs.length + 1) (toksCells cs ++ tokCells t)) (hg : w.grownBy w1 (Value.slice ca cs.length cc).ownBlock)
    (hat : (Value.slice ca' (cs.length + 1) cc').ownBlock = (Value.slice ca cs.length cc).ownBlock ∨ (Value.slice ca' (cs.length + 1) cc').ownBlock = some w.heap.size) (hg2 : w1.grownBy w2 (some b))
    (hB : Blk w2 b ty_scan_scanner [Str s, .int .i64 p, .slice ta ts.length tc, .slice ca' (cs.length + 1) cc']) : SA base b s p ts (cs ++ [t]) ta tc ca' cc' w2 := by
  have n2 := apart_blk h.B.lt h.n2 hat
  have hl : (cs ++ [t]).length = cs.length + 1 := by simp
  have n3' : ∀ k, (Value.slice ca cs.length cc).ownBlock = some k → (Value.slice ta ts.length tc).ownBlock ≠ some k := fun k hk he => h.n3 k he hk
  have ht := apart_row h.ht n3' hg
  refine ⟨by rw [hl]; exact hB, h.hb, own_keep ht hg2 (.inr h.n1), ?_, h.n1, by rw [hl]; exact n2, ?_⟩
  · rw [hl, toksCells_snoc]; exact own_keep h1 hg2 (.inr n2)
  · rw [hl]; exact fun k hk he => apart_append h.ht n3' hat k he hk
def endsT (t : Tok) : Bool := (decide (t.kind = 1) || decide (t.kind = 2)) || inB endw t.text
def nlTs (p : Nat) (ts : List Tok) : List Tok := match ts.getLast? with
  | some t => if endsT t = true then ts ++ [⟨4, [59], p⟩] else ts
  | none => ts
theorem row_last {w : World} {b : Nat} {ts0 : List Tok} {t : Tok} (h : RowAt w b 0 (toksCells (ts0 ++ [t]))) : RowAt w b (0 + (((ts0 ++ [t]).length : Nat) - 1 : Int).toNat * 3) (tokCells t) := by
  have e : (((ts0 ++ [t]).length : Nat) - 1 : Int).toNat = ts0.length := by simp
  have k := h.part (ts0.length * 3) 3
  rw [e]
  have e2 : ((toksCells (ts0 ++ [t])).drop (ts0.length * 3)).take 3 = tokCells t := by
    rw [toksCells_snoc, List.drop_append_of_le_length (by rw [toksCells_length]; exact Nat.le_refl _), List.drop_of_length_le (by rw [toksCells_length]; exact Nat.le_refl _)]
    rfl
  rw [e2] at k; exact k
theorem newline_ok (base b : Nat) (s : List UInt8) (p : Nat) (ts cs : List Tok) (w : World) (hs : Scn base b s p ts cs w) (h2 : p < s.length) :
    Ret PP fn_scan_scanner_newline #[.pointer (some ⟨b, 0, none⟩)] w fun v w' => v = .tuple #[] ∧ Scn base b s (p + 1) (nlTs p ts) cs w' ∧ Below base w w' := by
  obtain ⟨ta, tc, ca, cc, hs, k1, k2, k3, k4⟩ := hs.sa
  have g := G.refl w
  have hb : Below base w w := Below.refl _ _
  refine ret_of_sc (m := 53) func_scan_scanner_newline rfl rfl [(0, True, _)] (sub_cons rfl (sub_nil _)) ?_
  refine sc_seq fun K1 hK1 => ?_
  refine sc_seq fun K2 hK2 => ?_
  refine sc_text [3, 3, 3, 0, 3, 3] ?_
  refine sr_pu rfl (fun _ => rd_move (ev_t rfl)) ?_
  refine sr_pu rfl (fun _ => rd_nil (ev_t rfl)) ?_
  refine sr_pu rfl (fun _ => rd_field fo_scan_scanner_2 (ev_t rfl)) ?_
  refine sr_rd rfl (rd_load one_sl_api_Token (ev_t rfl) (fun _ => by first | exact (hs.grow g).B.at_ rfl)) ?_
  refine sr_pu rfl (fun _ => rd_len el_sl_api_Token (ev_t rfl)) ?_
  refine sr_pu rfl (fun _ => rd_assign (ev_t rfl)) ?_
  refine sr_sub [(0, _, _), (2, _, _)] (sub_cons rfl (sub_cons rfl (sub_nil _))) ?_
  refine sr_nil (hK2 _ _ ?_)
  refine sc_seq fun K3 hK3 => ?_
  refine sc_text [3, 3] ?_
  refine sr_pu rfl (fun _ => rd_move (ev_t rfl)) ?_
  refine sr_pu rfl (fun _ => rd_gt (ev_t rfl) ev_c) ?_
  refine sr_sub [(0, _, _), (2, _, _), (10, _, _)] (sub_cons rfl (sub_cons rfl (sub_cons rfl (sub_nil _)))) ?_
  refine sr_nil (hK3 _ _ ?_)
  refine sc_cond (ev_t rfl) (fun h1 => ?_) (fun h1 => ?_)
  · have hp : 0 < ts.length := by simp only [decide_eq_true_eq] at h1; omega
    obtain ⟨ts0, t, ets⟩ : ∃ ts0 t, ts = ts0 ++ [t] := by
      rcases List.eq_nil_or_concat ts with e | ⟨l, x, e⟩
      · rw [e] at hp; cases hp
      · exact ⟨l, x, by simpa using e⟩
    subst ets
    obtain ⟨bt, ct, ev, _, hrow, _⟩ := own_pos hs.ht hp
    injection ev with e1 e2 e3
    subst e1
    have hrow' := row_last hrow
    have hne : nlTs p (ts0 ++ [t]) = if endsT t = true then (ts0 ++ [t]) ++ [⟨4, [59], p⟩] else ts0 ++ [t] := by simp [nlTs]
    refine sc_seq fun K4 hK4 => ?_
    refine sc_text [3, 3, 3, 0, 3, 3, 3, 0, 1, 2] ?_
    refine sr_pu rfl (fun _ => rd_move (ev_t rfl)) ?_
    refine sr_pu rfl (fun _ => rd_nil (ev_t rfl)) ?_
    refine sr_pu rfl (fun _ => rd_field fo_scan_scanner_2 (ev_t rfl)) ?_
    refine sr_rd rfl (rd_load one_sl_api_Token (ev_t rfl) (fun _ => by first | exact (hs.grow g).B.at_ rfl)) ?_
    refine sr_pu rfl (fun _ => rd_move (ev_t rfl)) ?_
    refine sr_pu rfl (fun _ => rd_sub (ev_t rfl) ev_c (fun _ => by omega)) ?_
    refine sr_pu rfl (fun _ => rd_idx el_sl_api_Token (ev_t rfl) (ev_t rfl) (fun _ => by omega)) ?_
    refine sr_rd rfl (rd_loads agg_api_Token (ev_t rfl) rfl (fun _ => hrow')) ?_
    refine sr_alloc rfl ze_api_Token rfl ?_
    intro b3 w3 N3
    have l3 := N3.ge g
    have g := g.trans (N3.g)
    have B3 := N3.blk
    refine sr_store_all rfl sz_api_Token (ev_t rfl) (ev_t rfl) rfl rfl B3 rfl rfl ?_
    intro wS1 hgS1 hzS1
    clear B3
    intro B3
    have g := g_only g hgS1 (by intro k hk; injection hk with hk; omega)
    refine sr_sub [(0, _, _), (3, _, _)] (sub_cons rfl (sub_cons rfl (sub_nil _))) ?_
    refine sr_nil (hK4 _ _ ?_)
    refine sc_seq fun K5 hK5 => ?_
    refine sc_text [3, 0, 3, 3, 3, 0, 3, 3, 3, 3, 0, 1, 3] ?_
    refine sr_pu rfl (fun _ => rd_field fo_api_Token_0 (ev_t rfl)) ?_
    refine sr_rd rfl (rd_load one_int (ev_t rfl) (fun _ => B3.at_ rfl)) ?_
    refine sr_pu rfl (fun _ => rd_eq (ev_t rfl) ev_c) ?_
    refine sr_pu rfl (fun _ => rd_move (ev_t rfl)) ?_
    refine sr_pug rfl rfl rfl (fun _ => rd_field fo_api_Token_0 (ev_t rfl)) ?_
    refine sr_rdg rfl rfl rfl (rd_load one_int (ev_u rfl id) (fun _ => B3.at_ rfl)) ?_
    refine sr_pug rfl rfl rfl (fun _ => rd_eq (ev_u rfl id) ev_c) ?_
    refine sr_pu rfl (fun _ => rd_pick_or (ev_t rfl) (ev_u rfl id)) ?_
    refine sr_pu rfl (fun _ => rd_move (ev_t rfl)) ?_
    refine sr_pug rfl rfl rfl (fun _ => rd_field fo_api_Token_1 (ev_t rfl)) ?_
    refine sr_rdg rfl rfl rfl (rd_load one_string (ev_u rfl id) (fun _ => B3.at_ rfl)) ?_
    refine sr_pureg rfl rfl rfl (fun _ => (rc_call go_scan_ending ev_f (args_cons (ev_u rfl id) (args_nil)) rfl)) (fun hc => ending_ok _ _) (fun w30 g30 => ?_)
    have g := g.trans (g30)
    replace B3 := B3.grow (g30)
    refine sr_pu rfl (fun _ => rd_pick_or (ev_t rfl) (ev_u rfl id)) ?_
    refine sr_sub [(0, _, _), (31, _, _)] (sub_cons rfl (sub_cons rfl (sub_nil _))) ?_
    refine sr_nil (hK5 _ _ ?_)
    refine sc_cond (ev_t rfl) (fun h2 => ?_) (fun h2 => ?_)
    · rw [if_pos (show endsT t = true from h2)] at hne
      have hl : (nlTs p (ts0 ++ [t])).length ≤ p + 1 := by rw [hne, List.length_append]; exact Nat.succ_le_succ k1
      refine sc_draw [3, 3, 3, 3, 0, 3, 3, 3, 0, 3, 1, 2, 3, 3, 2] [true, true, true, true, true, true, true, true, true, true, true, true, true, true, true] [0, 0, 2, 6, 14, 0, 32, 96, 224, 480, 992, 2046, 4095, 8191, 16383] mix (by kernel_rfl) ?_
      have g := g.trans (G.drew _)
      replace B3 := B3.grow (G.drew _)
      refine sr_pu rfl (fun _ => rd_move (ev_t rfl)) ?_
      refine sr_pu rfl (fun _ => rd_move (ev_t rfl)) ?_
      refine sr_pu rfl (fun _ => rd_nil (ev_t rfl)) ?_
      refine sr_pu rfl (fun _ => rd_field fo_scan_scanner_2 (ev_t rfl)) ?_
      refine sr_rd rfl (rd_load one_sl_api_Token (ev_t rfl) (fun _ => by first | exact (hs.grow g).B.at_ rfl | exact B3.at_ rfl | exact B3.row)) ?_
      refine sr_pu rfl (fun _ => rd_move (ev_t rfl)) ?_
      refine sr_pu rfl (fun _ => rd_nil (ev_t rfl)) ?_
      refine sr_pu rfl (fun _ => rd_field fo_scan_scanner_1 (ev_t rfl)) ?_
      refine sr_rd rfl (rd_load one_int (ev_t rfl) (fun _ => by first | exact (hs.grow g).B.at_ rfl | exact B3.at_ rfl | exact B3.row)) ?_
      refine sr_pu rfl (fun _ => rd_build [_, _, _] ze_api_Token rfl pl_api_Token (parts_cons ev_c (parts_cons ev_c (parts_cons (ev_t rfl) (parts_nil)))) rfl) ?_
      refine sr_buildSlice [_, _, _] rfl el_sl_api_Token ze_api_Token (parts_cons (ev_t rfl) (parts_nil)) rfl rfl ?_
      intro b42 w42 N42
      have x42_3 := N42.ne B3
      have l42 := N42.ge g
      have g := g.trans (N42.g)
      replace B3 := B3.grow (N42.g)
      have B42 := N42.blk
      have hb := hb.trans (below_g g hs.base_le)
      have hs := hs.grow g
      have hz0 := hs.base_le
      refine sr_append rfl el_sl_api_Token ze_api_Token rfl (by decide) (ev_t rfl) hs.ht (ev_t rfl) rfl N42.blk.row rfl (by simp only [maxLen]; omega) (by omega) (by omega) ?_
      intro ta' tc' w43 ht' hg43 hat
      have hB := hs.B.keep hg43 (Ne.symm hs.n1)
      have hz := hg43.size
      refine sr_pu rfl (fun _ => rd_nil (ev_t rfl)) ?_
      refine sr_pu rfl (fun _ => rd_field fo_scan_scanner_2 (ev_t rfl)) ?_
      refine sr_store rfl sz_sl_api_Token (ev_t rfl) (ev_t rfl) rfl rfl hB rfl rfl ?_
      intro w44 hg44 hz44 hB
      have hb := below_only (below_only hb hg43 hs.base_le (fun k hk => (hs.ht.lt k hk).1)) hg44 (by have := hs.base_le; omega) (fun k hk => by injection hk with hk; have := hs.hb; omega)
      have hs := hs.putT (t := ⟨4, [59], p⟩) ht' hg43 hat hg44 hB
      have g := G.refl w44
      refine sr_sub [(0, _, _)] (sub_cons rfl (sub_nil _)) ?_
      refine sr_nil (hK1 _ _ ?_)
      refine sc_text [3, 3, 3, 0, 3, 3, 3, 2] ?_
      refine sr_pu rfl (fun _ => rd_move (ev_t rfl)) ?_
      refine sr_pu rfl (fun _ => rd_nil (ev_t rfl)) ?_
      refine sr_pu rfl (fun _ => rd_field fo_scan_scanner_1 (ev_t rfl)) ?_
      refine sr_rd rfl (rd_load one_int (ev_t rfl) (fun _ => by first | exact (hs.grow g).B.at_ rfl | exact B3.at_ rfl | exact B3.row | exact B42.at_ rfl | exact B42.row)) ?_
      refine sr_pu rfl (fun _ => rd_add (ev_t rfl) ev_c (fun _ => by omega)) ?_
      refine sr_pu rfl (fun _ => rd_nil (ev_t rfl)) ?_
      refine sr_pu rfl (fun _ => rd_field fo_scan_scanner_1 (ev_t rfl)) ?_
      refine sr_store rfl sz_int (ev_t rfl) (ev_t rfl) rfl rfl (hs.grow g).B rfl rfl ?_
      intro w52 hg52 hz52 hB
      have hb := below_go hb g hg52 hs.base_le hs.hb
      have hs := (hs.grow g).setp (q := p + 1) hg52 hB
      refine sr_sub [] (sub_nil _) ?_
      refine sr_nil (t_end0 rfl ?_)
      refine ⟨rfl, ?_, hb⟩
      rw [hne] at hl ⊢
      exact hs.scn hl (by omega) (by omega) k4
    rw [if_neg (by intro h; rw [endsT, h2] at h; cases h)] at hne
    have hl : (nlTs p (ts0 ++ [t])).length ≤ p + 1 := by rw [hne]; omega
    refine sc_skip (hK1 _ _ ?_)
    refine sc_sub [(0, _, _)] (sub_cons rfl (sub_nil _)) ?_
    refine sc_text [3, 3, 3, 0, 3, 3, 3, 2] ?_
    refine sr_pu rfl (fun _ => rd_move (ev_t rfl)) ?_
    refine sr_pu rfl (fun _ => rd_nil (ev_t rfl)) ?_
    refine sr_pu rfl (fun _ => rd_field fo_scan_scanner_1 (ev_t rfl)) ?_
    refine sr_rd rfl (rd_load one_int (ev_t rfl) (fun _ => by first | exact (hs.grow g).B.at_ rfl | exact B3.at_ rfl | exact B3.row)) ?_
    refine sr_pu rfl (fun _ => rd_add (ev_t rfl) ev_c (fun _ => by omega)) ?_
    refine sr_pu rfl (fun _ => rd_nil (ev_t rfl)) ?_
    refine sr_pu rfl (fun _ => rd_field fo_scan_scanner_1 (ev_t rfl)) ?_
    refine sr_store rfl sz_int (ev_t rfl) (ev_t rfl) rfl rfl (hs.grow g).B rfl rfl ?_
    intro w52 hg52 hz52 hB
    have hb := below_go hb g hg52 hs.base_le hs.hb
    have hs := (hs.grow g).setp (q := p + 1) hg52 hB
    refine sr_sub [] (sub_nil _) ?_
    refine sr_nil (t_end0 rfl ?_)
    refine ⟨rfl, ?_, hb⟩
    rw [hne] at hl ⊢
    exact hs.scn hl (by omega) (by omega) k4
  have hp : ts = [] := List.eq_nil_of_length_eq_zero (by simp only [decide_eq_false_iff_not] at h1; omega)
  have hne : nlTs p ts = ts := by rw [hp]; rfl
  have hl : (nlTs p ts).length ≤ p + 1 := by rw [hne]; omega
  refine sc_skip (hK1 _ _ ?_)
  refine sc_sub [(0, _, _)] (sub_cons rfl (sub_nil _)) ?_
  refine sc_text [3, 3, 3, 0, 3, 3, 3, 2] ?_
  refine sr_pu rfl (fun _ => rd_move (ev_t rfl)) ?_
  refine sr_pu rfl (fun _ => rd_nil (ev_t rfl)) ?_
  refine sr_pu rfl (fun _ => rd_field fo_scan_scanner_1 (ev_t rfl)) ?_
  refine sr_rd rfl (rd_load one_int (ev_t rfl) (fun _ => by first | exact (hs.grow g).B.at_ rfl)) ?_
  refine sr_pu rfl (fun _ => rd_add (ev_t rfl) ev_c (fun _ => by omega)) ?_
  refine sr_pu rfl (fun _ => rd_nil (ev_t rfl)) ?_
  refine sr_pu rfl (fun _ => rd_field fo_scan_scanner_1 (ev_t rfl)) ?_
  refine sr_store rfl sz_int (ev_t rfl) (ev_t rfl) rfl rfl (hs.grow g).B rfl rfl ?_
  intro w52 hg52 hz52 hB
  have hb := below_go hb g hg52 hs.base_le hs.hb
  have hs := (hs.grow g).setp (q := p + 1) hg52 hB
  refine sr_sub [] (sub_nil _) ?_
  refine sr_nil (t_end0 rfl ?_)
  refine ⟨rfl, ?_, hb⟩
  rw [hne] at hl ⊢
  exact hs.scn hl (by omega) (by omega) k4
end Go.Rk
namespace Go.Rk
open Go Go.RowKit
/-- How many bytes in a row satisfy a condition. -/
def runN (q : Int → Bool) : List UInt8 → Nat
  | [] => 0
  | c :: l => if q c.toNat = true then runN q l + 1 else 0
theorem runN_step {q : Int → Bool} {s : List UInt8} {k : Nat} (h : k < s.length) (hq : q (s.getD k 0).toNat = true) : runN q (s.drop k) = runN q (s.drop (k + 1)) + 1 := by
  rw [List.drop_eq_getElem_cons h, runN, if_pos (by simpa [List.getD_eq_getElem?_getD, List.getElem?_eq_getElem h] using hq)]
theorem runN_stop {q : Int → Bool} {s : List UInt8} {k : Nat} (h : k < s.length → q (s.getD k 0).toNat = false) : runN q (s.drop k) = 0 := by
  by_cases hk : k < s.length
  · rw [List.drop_eq_getElem_cons hk, runN, if_neg]
    have := h hk
    simp [List.getD_eq_getElem?_getD, List.getElem?_eq_getElem hk] at this
    simp [this]
  · rw [List.drop_of_length_le (by omega)]; rfl
theorem runN_le (q : Int → Bool) (l : List UInt8) : runN q l ≤ l.length := by
  induction l with
  | nil => exact Nat.le_refl _
  | cons c l ih => rw [runN]; split <;> simp <;> omega
theorem run_ok (base b : Nat) (s : List UInt8) (p : Nat) (ts cs : List Tok) (w : World) (hs : Scn base b s p ts cs w) (f : Nat) (q : Int → Bool) (hgo : goFn PP f = true) (hf : ∀ c w, Ret PP f #[.int .u8 c] w fun v w' => v = .bool (q c) ∧ G w w') :
    Ret PP fn_scan_scanner_run #[.pointer (some ⟨b, 0, none⟩), .func (.func f) #[] #[]] w fun v w' => v = .int .i64 (runN q (s.drop p)) ∧ G w w' := by
  obtain ⟨ta, tc, ca, cc, hs, k1, k2, k3, k4⟩ := hs.sa
  have g := G.refl w
  refine ret_of_sc (m := 36) func_scan_scanner_run rfl rfl [(0, True, _), (1, True, _)] (sub_cons rfl (sub_cons rfl (sub_nil _))) ?_
  refine sc_seq fun K1 hK1 => ?_
  refine sc_text [3] ?_
  refine sr_pu rfl (fun _ => rd_assign ev_c) ?_
  refine sr_nil (hK1 _ _ ?_)
  refine sc_seq fun K2 hK2 => ?_
  refine sc_text [3] ?_
  refine sr_pu rfl (fun _ => rd_assign ev_c) ?_
  refine sr_nil (hK2 _ _ ?_)
  refine sc_seq fun K3 hK3 => ?_
  refine sc_block ?_
  refine sc_loop (fun (n : Nat) u => p + n ≤ s.length ∧ runN q (s.drop p) = n + runN q (s.drop (p + n)) ∧ G w u) (fun n => [(0, True, .pointer (some ⟨b, 0, none⟩)), (1, True, .func (.func f) #[] #[]), (5, True, .int .i64 n)]) (fun n => s.length - n) 0 ⟨by omega, by simp, g⟩ (sub_cons rfl (sub_cons rfl (sub_cons rfl (sub_nil _)))) ?_
  rintro n u ⟨hn, he, g⟩
  refine sc_seq fun K4 hK4 => ?_
  refine sc_seq fun K5 hK5 => ?_
  refine sc_draw [3, 3, 3, 0, 3, 3, 3, 3, 3, 0, 3, 3, 3, 3, 3, 3, 3, 0, 3, 3, 3, 0, 3, 3, 3, 1, 3] [true, true, true, true, true, true, true, true, true, true, true, true, true, true, true, true, true, true, true, true, true, true, true, true, true, true, true] [0, 1, 3, 7, 0, 31, 0, 64, 192, 448, 960, 2047, 4095, 8191, 8191, 24575, 57343, 122879, 8191, 270335, 794623, 1843199, 8191, 8134655, 16769023, 33554431, 67108863] mix (by kernel_rfl) ?_
  have g := g.trans (G.drew _)
  refine sr_pu rfl (fun _ => rd_move (ev_t rfl)) ?_
  refine sr_pu rfl (fun _ => rd_nil (ev_t rfl)) ?_
  refine sr_pu rfl (fun _ => rd_field fo_scan_scanner_1 (ev_t rfl)) ?_
  refine sr_rd rfl (rd_load one_int (ev_t rfl) (fun _ => by first | exact (hs.grow g).B.at_ rfl)) ?_
  refine sr_pu rfl (fun _ => rd_move (ev_t rfl)) ?_
  refine sr_pu rfl (fun _ => rd_add (ev_t rfl) (ev_t rfl) (fun _ => by omega)) ?_
  refine sr_pu rfl (fun _ => rd_move (ev_t rfl)) ?_
  refine sr_pu rfl (fun _ => rd_nil (ev_t rfl)) ?_
  refine sr_pu rfl (fun _ => rd_field fo_scan_scanner_0 (ev_t rfl)) ?_
  refine sr_rd rfl (rd_load one_string (ev_t rfl) (fun _ => by first | exact (hs.grow g).B.at_ rfl)) ?_
  refine sr_pu rfl (fun _ => rd_slen str_string (ev_t rfl)) ?_
  refine sr_pu rfl (fun _ => rd_lt (ev_t rfl) (ev_t rfl)) ?_
  refine sr_pu rfl (fun _ => rd_move (ev_t rfl)) ?_
  refine sr_pug rfl rfl rfl (fun _ => rd_move (ev_t rfl)) ?_
  refine sr_pug rfl rfl rfl (fun _ => rd_move (ev_t rfl)) ?_
  refine sr_pug rfl rfl rfl (fun _ => rd_nil (ev_u rfl id)) ?_
  refine sr_pug rfl rfl rfl (fun _ => rd_field fo_scan_scanner_0 (ev_u rfl id)) ?_
  refine sr_rdg rfl rfl rfl (rd_load one_string (ev_u rfl id) (fun _ => by first | exact (hs.grow g).B.at_ rfl)) ?_
  refine sr_pug rfl rfl rfl (fun _ => rd_move (ev_t rfl)) ?_
  refine sr_pug rfl rfl rfl (fun _ => rd_nil (ev_u rfl id)) ?_
  refine sr_pug rfl rfl rfl (fun _ => rd_field fo_scan_scanner_1 (ev_u rfl id)) ?_
  refine sr_rdg rfl rfl rfl (rd_load one_int (ev_u rfl id) (fun _ => by first | exact (hs.grow g).B.at_ rfl)) ?_
  refine sr_pug rfl rfl rfl (fun _ => rd_move (ev_t rfl)) ?_
  refine sr_pug rfl rfl rfl (fun _ => rd_add (ev_u rfl id) (ev_u rfl id) (fun _ => by omega)) ?_
  refine sr_pug rfl rfl rfl (fun _ => rd_sidx str_string (ev_u rfl id) (ev_u rfl id) (fun hc => by have := of_decide_eq_true hc.2; omega)) ?_
  refine sr_pureg rfl rfl rfl (fun _ => (rc_call hgo (ev_u rfl id) (args_cons (ev_u rfl id) (args_nil)) rfl)) (fun hc => hf _ _) (fun w31 g31 => ?_)
  have g := g.trans (g31)
  refine sr_pu rfl (fun _ => rd_pick_and (ev_t rfl) (ev_u rfl id)) ?_
  refine sr_sub [(0, _, _), (1, _, _), (5, _, _), (32, _, _)] (sub_cons rfl (sub_cons rfl (sub_cons rfl (sub_cons rfl (sub_nil _))))) ?_
  refine sr_nil (hK5 _ _ ?_)
  refine sc_cond (ev_t rfl) (fun h1 => ?_) (fun h1 => ?_)
  · simp only [Bool.and_eq_true, decide_eq_true_eq] at h1
    obtain ⟨h1, h2⟩ := h1
    have e : ((p : Int) + n).toNat = p + n := by omega
    rw [e] at h2
    have hst := runN_step (by omega) h2
    refine sc_skip (hK4 _ _ ?_)
    refine sc_sub [(0, _, _), (1, _, _), (5, _, _)] (sub_cons rfl (sub_cons rfl (sub_cons rfl (sub_nil _)))) ?_
    refine sc_block ?_
    refine sc_text [3, 3, 3] ?_
    refine sr_pu rfl (fun _ => rd_move (ev_t rfl)) ?_
    refine sr_pu rfl (fun _ => rd_add (ev_t rfl) ev_c (fun _ => by omega)) ?_
    refine sr_pu rfl (fun _ => rd_assign (ev_t rfl)) ?_
    refine sr_sub [(0, _, _), (1, _, _), (5, _, _)] (sub_cons rfl (sub_cons rfl (sub_cons rfl (sub_nil _)))) ?_
    refine sr_nil (fun a ha => ?_)
    exact ⟨n + 1, ha, ⟨by omega, by rw [he, hst, Nat.add_assoc p n 1]; omega, g⟩, by omega⟩
  have hst : runN q (s.drop (p + n)) = 0 := runN_stop fun hk => by
    have e : ((p : Int) + n).toNat = p + n := by omega
    rw [e, decide_eq_true (by omega : (p : Int) + n < s.length), Bool.true_and] at h1
    exact h1
  refine sc_exit rfl (hK3 _ _ ?_)
  refine sc_sub [(5, _, _)] (sub_cons rfl (sub_nil _)) ?_
  refine sc_seq fun K6 hK6 => ?_
  refine sc_text [3, 3] ?_
  refine sr_pu rfl (fun _ => rd_move (ev_t rfl)) ?_
  refine sr_pu rfl (fun _ => rd_assign (ev_t rfl)) ?_
  refine sr_nil (hK6 _ _ ?_)
  refine sc_sub [(4, _, _), (5, _, _), (35, _, _)] (sub_cons rfl (sub_cons rfl (sub_cons rfl (sub_nil _)))) ?_
  refine sc_ret (t_ret1 rfl rfl ?_)
  refine ⟨?_, g⟩
  rw [he, hst]; rfl
end Go.Rk
namespace Go.Rk
open Go Go.Shelf Go.RowKit
/-- The value of digits. -/
def valN (a : Nat) (l : List UInt8) : Nat := l.foldl (fun a c => a * 10 + (c.toNat - 48)) a
def allD (l : List UInt8) : Prop := ∀ c ∈ l, 48 ≤ c.toNat ∧ c.toNat ≤ 57
theorem valN_cons (a : Nat) (c : UInt8) (l : List UInt8) : valN a (c :: l) = valN (a * 10 + (c.toNat - 48)) l := List.foldl_cons ..
theorem valN_ge (l : List UInt8) : ∀ a, a ≤ valN a l := by
  induction l with
  | nil => exact fun a => Nat.le_refl _
  | cons c l ih => intro a; have := ih (a * 10 + (c.toNat - 48)); rw [valN_cons]; omega
theorem parseM_digits (M : Nat) (hM : M = 18446744073709551615) : ∀ (l : List UInt8) (a : Nat), allD l → Lib.parseUintM M a l = if l = [] then .ok a else if valN a l ≤ M then .ok (valN a l) else .range
  | [], a, _ => rfl
  | c :: l, a, h => by
    have hc := h c (List.mem_cons_self ..)
    have ih := parseM_digits M hM l (a * 10 + (c.toNat - 48)) (fun x hx => h x (List.mem_cons_of_mem _ hx))
    have hge := valN_ge l (a * 10 + (c.toNat - 48))
    rw [if_neg (by simp : ¬ (c :: l) = []), valN_cons]
    rw [Lib.parseUintM, if_pos hc]
    generalize hv : a * 10 + (c.toNat - 48) = v at ih hge ⊢
    by_cases h1 : 1844674407370955162 ≤ a
    · rw [if_pos h1, if_neg (by omega)]
    · rw [if_neg h1]
      by_cases h2 : M < v
      · rw [if_pos h2, if_neg (by omega)]
      · rw [if_neg h2, ih]
        by_cases hl : l = []
        · subst hl; rw [if_pos rfl]; rw [if_pos (show valN v [] ≤ M by show v ≤ M; omega)]; rfl
        · rw [if_neg hl]
theorem parseI_digits (l : List UInt8) (h : allD l) (hne : l ≠ []) : Lib.parseIntB 64 l = if valN 0 l < 9223372036854775808 then .ok (valN 0 l : Int) else .range := by
  cases l with
  | nil => exact absurd rfl hne
  | cons c r =>
    have hc := h c (List.mem_cons_self ..)
    have e1 : (2 : Nat) ^ (64 - 1) = 9223372036854775808 := by decide
    have e2 : (2 : Nat) ^ 64 - 1 = 18446744073709551615 := by decide
    have hm := parseM_digits _ rfl (c :: r) 0 h
    rw [if_neg (by simp : ¬ (c :: r) = [])] at hm
    simp only [Lib.parseIntB, Lib.parseUintB, e1, e2]
    rw [if_neg (by omega : ¬ (c.toNat = 43 ∨ c.toNat = 45)), if_neg (by simp : ¬ (c :: r) = []), hm]
    by_cases h2 : valN 0 (c :: r) ≤ 18446744073709551615
    · rw [if_pos h2]
      by_cases h3 : valN 0 (c :: r) < 9223372036854775808
      · rw [if_pos h3]; simp only []; rw [if_neg (by omega), if_neg (by omega), if_neg (by omega)]
      · rw [if_neg h3]; simp only []; rw [if_pos (by omega)]
    · rw [if_neg h2, if_neg (by omega)]
/-- The error of strconv.ParseInt, as far as it matters: whether it is nil. -/
theorem parse_ok (l : List UInt8) (h : allD l) (hne : l ≠ []) (hl : l.length ≤ 20000) (w : World) (ev : Value) (hv : w.cell? ⟨3, 0, none⟩ = some ev) (hev : ev = .nilIface ∨ ∃ te pe, ev = .iface te pe) :
    Ret PP fn_strconv_ParseInt #[Str l, .int .i64 10, .int .i64 64] w fun v w' => (∃ x e, v = .tuple #[.int .i64 x, e] ∧ (e = .nilIface ∨ ∃ a b, e = .iface a b) ∧ nilV e = decide (valN 0 l < 9223372036854775808)) ∧ G w w' := by
  have hp := parseI_digits l h hne
  by_cases h3 : valN 0 l < 9223372036854775808
  · rw [if_pos h3] at hp
    refine (Go.Proofs.Any.strconv_ParseInt_10_at64_ok laysC174 ⟨l.toArray⟩ (by simp [ByteArray.size]; omega) _ (by simpa using hp) w).mono ?_
    rintro e w' ⟨rfl, hw⟩
    refine ⟨_, rfl, ⟨_, .nilIface, rfl, .inl rfl, by rw [decide_eq_true h3]; rfl⟩, ?_⟩
    rcases hw with rfl | ⟨t, rfl⟩
    · exact G.refl _
    · exact Lib.bytesWorld_below _ _ _
  · rw [if_neg h3] at hp
    refine (Go.Proofs.Any.strconv_ParseInt_10_at64_range laysC174 ⟨l.toArray⟩ (by simp [ByteArray.size]; omega) (by simpa using hp) ev w hv hev).mono ?_
    rintro e w' ⟨N, rfl, _, _, hb⟩
    exact ⟨_, rfl, ⟨_, _, rfl, .inr ⟨_, _, rfl⟩, by rw [decide_eq_false h3]; rfl⟩, hb⟩
end Go.Rk
namespace Go.Rk
open Go Go.RowKit
def opsL : List (List UInt8) := [[58, 61], [61, 61], [33, 61], [60, 61], [62, 61], [38, 38], [124, 124], [60, 45], [40], [41], [91], [93], [123], [125], [44], [59], [58], [46], [61], [60], [62], [43], [45], [42], [47], [37], [33]]
/-- What start-up laid. -/
structure Laid (w : World) : Prop where
  ops : RowAt w 0 0 (opsL.map Str)
  err : ∃ ev, w.cell? ⟨3, 0, none⟩ = some ev ∧ (ev = .nilIface ∨ ∃ te pe, ev = .iface te pe)
theorem Laid.below {w w' : World} {base : Nat} (h : Laid w) (hb : 4 ≤ base) (g : Below base w w') : Laid w' :=
  ⟨fun j v hj => (Below.cell g (show 0 < base by omega)).trans (h.ops j v hj), by
    obtain ⟨ev, h1, h2⟩ := h.err
    exact ⟨ev, (Below.cell g (show 3 < base by omega)).trans h1, h2⟩⟩
theorem Laid.grow {w w' : World} (h : Laid w) (g : G w w') : Laid w' :=
  ⟨h.ops.grow g, by
    obtain ⟨ev, h1, h2⟩ := h.err
    exact ⟨ev, cell_grow g h1, h2⟩⟩
def cAt (s : List UInt8) (p : Nat) : Int := ((s.getD p 0).toNat : Int)
def isNotLf (c : Int) : Bool := !decide (c = 10)
def isAlnum (c : Int) : Bool := letterB c || digitB c
def opLen (l : List UInt8) : Nat := match opsL.find? (fun o => preB o l) with
  | some o => o.length
  | none => 0
def badD (s : List UInt8) (p n : Nat) : Bool := (decide (cAt s p = 48) && decide ((1 : Int) < n)) || (decide ((p : Int) + n < s.length) && letterB (cAt s (p + n)))
def wordK (l : List UInt8) : Int := bif inB kws l then 3 else 1
/-- One step: the place, the tokens, the comments, the error. -/
def nextF (s : List UInt8) (p : Nat) (ts cs : List Tok) : Nat × List Tok × List Tok × Int :=
  bif decide (cAt s p = 10) then (p + 1, nlTs p ts, cs, 0)
  else bif (decide (cAt s p = 32) || decide (cAt s p = 9)) || decide (cAt s p = 13) then (p + 1, ts, cs, 0)
  else bif preB [47, 47] (s.drop p) then (p + runN isNotLf (s.drop p), ts, cs ++ [⟨5, (s.drop p).take (runN isNotLf (s.drop p)), p⟩], 0)
  else bif letterB (cAt s p) then bif decide ((32 : Int) < runN isAlnum (s.drop p)) then (p, ts, cs, 3)
    else (p + runN isAlnum (s.drop p), ts ++ [⟨wordK ((s.drop p).take (runN isAlnum (s.drop p))), (s.drop p).take (runN isAlnum (s.drop p)), p⟩], cs, 0)
  else bif digitB (cAt s p) then bif badD s p (runN digitB (s.drop p)) then (p, ts, cs, 4)
    else bif decide (valN 0 ((s.drop p).take (runN digitB (s.drop p))) < 9223372036854775808) then (p + runN digitB (s.drop p), ts ++ [⟨2, (s.drop p).take (runN digitB (s.drop p)), p⟩], cs, 0) else (p, ts, cs, 4)
  else bif Nat.beq (opLen (s.drop p)) 0 then (p, ts, cs, 4)
  else (p + opLen (s.drop p), ts ++ [⟨4, (s.drop p).take (opLen (s.drop p)), p⟩], cs, 0)
theorem runN_pos {q : Int → Bool} {s : List UInt8} {p : Nat} (h : p < s.length) (hq : q (cAt s p) = true) : 1 ≤ runN q (s.drop p) := by rw [runN_step h hq]; omega
theorem runN_fit (q : Int → Bool) {s : List UInt8} {p : Nat} (h : p < s.length) : p + runN q (s.drop p) ≤ s.length := by
  have := runN_le q (s.drop p); rw [List.length_drop] at this; omega
theorem runN_all (q : Int → Bool) : ∀ (l : List UInt8), ∀ c ∈ l.take (runN q l), q c.toNat = true
  | [], c, hc => by cases hc
  | a :: l, c, hc => by
    rw [runN] at hc
    split at hc
    · rename_i h
      rw [List.take_succ_cons] at hc
      rcases List.mem_cons.mp hc with rfl | hc
      · exact h
      · exact runN_all q l c hc
    · cases hc
theorem digits_allD (s : List UInt8) (p : Nat) : allD ((s.drop p).take (runN digitB (s.drop p))) := fun c hc => by
  have := runN_all digitB _ c hc
  simp only [digitB, Bool.and_eq_true, decide_eq_true_eq] at this
  omega
theorem opsL_at {i : Nat} (h : i < 27) : (opsL.map Str).toArray[i]? = some (Str (opsL.getD i [])) := by
  have hl : opsL.length = 27 := rfl
  simp [List.getD_eq_getElem?_getD, List.getElem?_eq_getElem (show i < opsL.length by omega)]
theorem opsL_pos : ∀ i < 27, 1 ≤ (opsL.getD i []).length := by decide
theorem opLen_some {l : List UInt8} {i : Nat} (h : i < 27) (h1 : ∀ j < i, preB (opsL.getD j []) l = false) (h2 : preB (opsL.getD i []) l = true) : opLen l = (opsL.getD i []).length := by
  have hl : opsL.length = 27 := rfl
  have : opsL.find? (fun o => preB o l) = some (opsL.getD i []) := by
    rw [List.find?_eq_some_iff_getElem]
    refine ⟨h2, i, by omega, ?_, fun j hj => ?_⟩
    · simp [List.getD_eq_getElem?_getD, List.getElem?_eq_getElem (show i < opsL.length by omega)]
    · have := h1 j hj
      simp [List.getD_eq_getElem?_getD, List.getElem?_eq_getElem (show j < opsL.length by omega)] at this
      simp [this]
  rw [opLen, this]
theorem opLen_none {l : List UInt8} (h1 : ∀ j < 27, preB (opsL.getD j []) l = false) : opLen l = 0 := by
  have hl : opsL.length = 27 := rfl
  have : opsL.find? (fun o => preB o l) = none := by
    rw [List.find?_eq_none]
    intro o ho
    obtain ⟨j, hj, rfl⟩ := List.getElem_of_mem ho
    have := h1 j (by omega)
    simp [List.getD_eq_getElem?_getD, List.getElem?_eq_getElem hj] at this
    simp [this]
  rw [opLen, this]
theorem preB_len {o l : List UInt8} (h : preB o l = true) : o.length ≤ l.length ∧ l.take o.length = o := by
  simpa [preB] using h
theorem next_ok (base b : Nat) (hb3 : 4 ≤ base) (s : List UInt8) (p : Nat) (ts cs : List Tok) (w : World) (hL : Laid w) (hs : Scn base b s p ts cs w) (hp : p < s.length) :
    Ret PP fn_scan_scanner_next #[.pointer (some ⟨b, 0, none⟩)] w fun v w' => v = .int .i64 (nextF s p ts cs).2.2.2 ∧ Scn base b s (nextF s p ts cs).1 (nextF s p ts cs).2.1 (nextF s p ts cs).2.2.1 w' ∧ Below base w w' := by
  obtain ⟨ta, tc, ca, cc, hs, k1, k2, k3, k4⟩ := hs.sa
  have g := G.refl w
  refine ret_of_sc (m := 204) func_scan_scanner_next rfl rfl [(0, True, _)] (sub_cons rfl (sub_nil _)) ?_
  refine sc_seq fun K1 hK1 => ?_
  refine sc_text [3] ?_
  refine sr_pu rfl (fun _ => rd_assign ev_c) ?_
  refine sr_nil (hK1 _ _ ?_)
  refine sc_seq fun K2 hK2 => ?_
  refine sc_draw [3, 3, 3, 0, 3, 3, 3, 0, 3, 3] [true, true, true, true, true, true, true, true, true, true] [0, 1, 3, 7, 0, 16, 48, 112, 255, 511] mix (by kernel_rfl) ?_
  have g := g.trans (G.drew _)
  refine sr_pu rfl (fun _ => rd_move (ev_t rfl)) ?_
  refine sr_pu rfl (fun _ => rd_nil (ev_t rfl)) ?_
  refine sr_pu rfl (fun _ => rd_field fo_scan_scanner_0 (ev_t rfl)) ?_
  refine sr_rd rfl (rd_load one_string (ev_t rfl) (fun _ => by first | exact (hs.grow g).B.at_ rfl)) ?_
  refine sr_pu rfl (fun _ => rd_move (ev_t rfl)) ?_
  refine sr_pu rfl (fun _ => rd_nil (ev_t rfl)) ?_
  refine sr_pu rfl (fun _ => rd_field fo_scan_scanner_1 (ev_t rfl)) ?_
  refine sr_rd rfl (rd_load one_int (ev_t rfl) (fun _ => by first | exact (hs.grow g).B.at_ rfl)) ?_
  refine sr_pu rfl (fun _ => rd_sidx str_string (ev_t rfl) (ev_t rfl) (fun _ => by omega)) ?_
  refine sr_pu rfl (fun _ => rd_assign (ev_t rfl)) ?_
  refine sr_sub [(0, _, _), (2, _, _), (3, _, _)] (sub_cons rfl (sub_cons rfl (sub_cons rfl (sub_nil _)))) ?_
  refine sr_nil (hK2 _ _ ?_)
  refine sc_seq fun K3 hK3 => ?_
  refine sc_block ?_
  refine sc_seq fun K4 hK4 => ?_
  refine sc_text [3, 3, 3] ?_
  refine sr_pu rfl (fun _ => rd_move (ev_t rfl)) ?_
  refine sr_pu rfl (fun _ => rd_eq (ev_t rfl) ev_c) ?_
  refine sr_pu rfl (fun _ => rd_assign (ev_t rfl)) ?_
  refine sr_sub [(0, _, _), (2, _, _), (3, _, _), (41, _, _)] (sub_cons rfl (sub_cons rfl (sub_cons rfl (sub_cons rfl (sub_nil _))))) ?_
  refine sr_nil (hK4 _ _ ?_)
  refine sc_cond (ev_t rfl) (fun h1 => ?_) (fun h1 => ?_)
  · replace h1 : decide (cAt s p = 10) = true := h1
    have hN : nextF s p ts cs = (p + 1, nlTs p ts, cs, 0) := by unfold nextF; rw [h1]; rfl
    refine sc_text [3, 2] ?_
    refine sr_pu rfl (fun _ => rd_move (ev_t rfl)) ?_
    refine sr_call rfl (rc_call go_scan_scanner_newline ev_f (args_cons (ev_t rfl) (args_nil)) rfl) (newline_ok base b s p ts cs _ ((hs.grow g).scn k1 k2 k3 k4) hp) ?_
    rintro v45 w45 ⟨rfl, hs', hb'⟩
    refine ⟨fun h => absurd h (by decide), ?_⟩
    have hb' := (below_g g hs.base_le).trans hb'
    refine sr_sub [(2, _, _)] (sub_cons rfl (sub_nil _)) ?_
    refine sr_nil (hK3 _ _ ?_)
    refine sc_seq fun K5 hK5 => ?_
    refine sc_text [3] ?_
    refine sr_pu rfl (fun _ => rd_assign ev_c) ?_
    refine sr_nil (hK5 _ _ ?_)
    refine sc_ret (t_ret1 rfl rfl ?_)
    rw [hN]; exact ⟨rfl, hs', hb'⟩
  replace h1 : decide (cAt s p = 10) = false := h1
  refine sc_seq fun K6 hK6 => ?_
  refine sc_text [3, 3, 3, 3, 3, 3, 3, 3, 3, 3, 3] ?_
  refine sr_pu rfl (fun _ => rd_move (ev_t rfl)) ?_
  refine sr_pu rfl (fun _ => rd_eq (ev_t rfl) ev_c) ?_
  refine sr_pu rfl (fun _ => rd_move (ev_t rfl)) ?_
  refine sr_pug rfl rfl rfl (fun _ => rd_move (ev_t rfl)) ?_
  refine sr_pug rfl rfl rfl (fun _ => rd_eq (ev_u rfl id) ev_c) ?_
  refine sr_pu rfl (fun _ => rd_pick_or (ev_t rfl) (ev_u rfl id)) ?_
  refine sr_pu rfl (fun _ => rd_move (ev_t rfl)) ?_
  refine sr_pug rfl rfl rfl (fun _ => rd_move (ev_t rfl)) ?_
  refine sr_pug rfl rfl rfl (fun _ => rd_eq (ev_u rfl id) ev_c) ?_
  refine sr_pu rfl (fun _ => rd_pick_or (ev_t rfl) (ev_u rfl id)) ?_
  refine sr_pu rfl (fun _ => rd_assign (ev_t rfl)) ?_
  refine sr_sub [(0, _, _), (2, _, _), (3, _, _), (46, _, _)] (sub_cons rfl (sub_cons rfl (sub_cons rfl (sub_cons rfl (sub_nil _))))) ?_
  refine sr_nil (hK6 _ _ ?_)
  refine sc_cond (ev_t rfl) (fun h2 => ?_) (fun h2 => ?_)
  · replace h2 : ((decide (cAt s p = 32) || decide (cAt s p = 9)) || decide (cAt s p = 13)) = true := h2
    have hN : nextF s p ts cs = (p + 1, ts, cs, 0) := by unfold nextF; rw [h1, h2]; rfl
    refine sc_text [3, 3, 3, 0, 3, 3, 3, 2] ?_
    refine sr_pu rfl (fun _ => rd_move (ev_t rfl)) ?_
    refine sr_pu rfl (fun _ => rd_nil (ev_t rfl)) ?_
    refine sr_pu rfl (fun _ => rd_field fo_scan_scanner_1 (ev_t rfl)) ?_
    refine sr_rd rfl (rd_load one_int (ev_t rfl) (fun _ => by first | exact (hs.grow g).B.at_ rfl)) ?_
    refine sr_pu rfl (fun _ => rd_add (ev_t rfl) ev_c (fun _ => by omega)) ?_
    refine sr_pu rfl (fun _ => rd_nil (ev_t rfl)) ?_
    refine sr_pu rfl (fun _ => rd_field fo_scan_scanner_1 (ev_t rfl)) ?_
    refine sr_store rfl sz_int (ev_t rfl) (ev_t rfl) rfl rfl (hs.grow g).B rfl rfl ?_
    intro w63 hg63 hz63 hB
    have hb' := below_go (Below.refl _ _) g hg63 hs.base_le hs.hb
    have hs' := ((hs.grow g).setp (q := p + 1) hg63 hB).scn (by omega) (by omega) (by omega) k4
    refine sr_sub [(2, _, _)] (sub_cons rfl (sub_nil _)) ?_
    refine sr_nil (hK3 _ _ ?_)
    refine sc_seq fun K7 hK7 => ?_
    refine sc_text [3] ?_
    refine sr_pu rfl (fun _ => rd_assign ev_c) ?_
    refine sr_nil (hK7 _ _ ?_)
    refine sc_ret (t_ret1 rfl rfl ?_)
    rw [hN]; exact ⟨rfl, hs', hb'⟩
  replace h2 : ((decide (cAt s p = 32) || decide (cAt s p = 9)) || decide (cAt s p = 13)) = false := h2
  refine sc_seq fun K8 hK8 => ?_
  refine sc_draw [3, 3, 3, 0, 3, 3, 3, 0, 3, 1, 3] [true, true, true, true, true, true, true, true, true, true, true] [0, 1, 3, 7, 0, 16, 48, 112, 255, 511, 1023] mix (by kernel_rfl) ?_
  have g := g.trans (G.drew _)
  refine sr_pu rfl (fun _ => rd_move (ev_t rfl)) ?_
  refine sr_pu rfl (fun _ => rd_nil (ev_t rfl)) ?_
  refine sr_pu rfl (fun _ => rd_field fo_scan_scanner_0 (ev_t rfl)) ?_
  refine sr_rd rfl (rd_load one_string (ev_t rfl) (fun _ => by first | exact (hs.grow g).B.at_ rfl)) ?_
  refine sr_pu rfl (fun _ => rd_move (ev_t rfl)) ?_
  refine sr_pu rfl (fun _ => rd_nil (ev_t rfl)) ?_
  refine sr_pu rfl (fun _ => rd_field fo_scan_scanner_1 (ev_t rfl)) ?_
  refine sr_rd rfl (rd_load one_int (ev_t rfl) (fun _ => by first | exact (hs.grow g).B.at_ rfl)) ?_
  refine sr_pu rfl (fun _ => rd_ssl_from str_string (ev_t rfl) (ev_t rfl) (fun _ => by omega)) ?_
  refine sr_pure rfl (rc_call go_strings_HasPrefix ev_f (args_cons (ev_t rfl) (args_cons ev_c (args_nil))) rfl) (shasprefix_ok _ _ _) (fun w74 g74 => ?_)
  have g := g.trans (g74)
  refine sr_pu rfl (fun _ => rd_assign (ev_t rfl)) ?_
  refine sr_sub [(0, _, _), (2, _, _), (3, _, _), (64, _, _)] (sub_cons rfl (sub_cons rfl (sub_cons rfl (sub_cons rfl (sub_nil _))))) ?_
  refine sr_nil (hK8 _ _ ?_)
  refine sc_cond (ev_t rfl) (fun h3 => ?_) (fun h3 => ?_)
  · replace h3 : preB [47, 47] (s.drop p) = true := h3
    have hn := runN_pos (q := isNotLf) hp (by rw [isNotLf, h1]; rfl)
    have hf := runN_fit isNotLf hp
    have hN : nextF s p ts cs = (p + runN isNotLf (s.drop p), ts, cs ++ [⟨5, (s.drop p).take (runN isNotLf (s.drop p)), p⟩], 0) := by unfold nextF; rw [h1, h2, h3]; rfl
    have e : ((p : Int) + (runN isNotLf (s.drop p) : Nat)).toNat - (p : Int).toNat = runN isNotLf (s.drop p) := by omega
    refine sc_seq fun K9 hK9 => ?_
    refine sc_text [3, 1, 3] ?_
    refine sr_pu rfl (fun _ => rd_move (ev_t rfl)) ?_
    refine sr_pure rfl (rc_call go_scan_scanner_run ev_f (args_cons (ev_t rfl) (args_cons ev_f (args_nil))) rfl) (run_ok base b s p ts cs _ ((hs.grow g).scn k1 k2 k3 k4) _ isNotLf go_scan_scanner_next_1 notlf_ok) (fun w76 g76 => ?_)
    have g := g.trans (g76)
    refine sr_pu rfl (fun _ => rd_assign (ev_t rfl)) ?_
    refine sr_sub [(0, _, _), (2, _, _), (4, _, _)] (sub_cons rfl (sub_cons rfl (sub_cons rfl (sub_nil _)))) ?_
    refine sr_nil (hK9 _ _ ?_)
    refine sc_seq fun K10 hK10 => ?_
    refine sc_draw [3, 3, 3, 3, 0, 3, 3, 3, 0, 3, 3, 3, 0, 3, 3, 3, 0, 3, 3, 3, 3, 3, 3, 0, 3, 1, 2, 3, 3, 2] [true, true, true, true, true, true, true, true, true, true, true, true, true, true, true, true, true, true, true, true, true, true, true, true, true, true, true, true, true, true] [0, 0, 2, 6, 14, 0, 32, 96, 224, 0, 512, 1536, 3584, 0, 8192, 24576, 57344, 0, 253952, 524256, 0, 1048576, 3145728, 7340032, 16777184, 33554400, 67108862, 134217727, 268435455, 536870911] mix (by kernel_rfl) ?_
    have g := g.trans (G.drew _)
    refine sr_pu rfl (fun _ => rd_move (ev_t rfl)) ?_
    refine sr_pu rfl (fun _ => rd_move (ev_t rfl)) ?_
    refine sr_pu rfl (fun _ => rd_nil (ev_t rfl)) ?_
    refine sr_pu rfl (fun _ => rd_field fo_scan_scanner_3 (ev_t rfl)) ?_
    refine sr_rd rfl (rd_load one_sl_api_Token (ev_t rfl) (fun _ => by first | exact (hs.grow g).B.at_ rfl)) ?_
    refine sr_pu rfl (fun _ => rd_move (ev_t rfl)) ?_
    refine sr_pu rfl (fun _ => rd_nil (ev_t rfl)) ?_
    refine sr_pu rfl (fun _ => rd_field fo_scan_scanner_0 (ev_t rfl)) ?_
    refine sr_rd rfl (rd_load one_string (ev_t rfl) (fun _ => by first | exact (hs.grow g).B.at_ rfl)) ?_
    refine sr_pu rfl (fun _ => rd_move (ev_t rfl)) ?_
    refine sr_pu rfl (fun _ => rd_nil (ev_t rfl)) ?_
    refine sr_pu rfl (fun _ => rd_field fo_scan_scanner_1 (ev_t rfl)) ?_
    refine sr_rd rfl (rd_load one_int (ev_t rfl) (fun _ => by first | exact (hs.grow g).B.at_ rfl)) ?_
    refine sr_pu rfl (fun _ => rd_move (ev_t rfl)) ?_
    refine sr_pu rfl (fun _ => rd_nil (ev_t rfl)) ?_
    refine sr_pu rfl (fun _ => rd_field fo_scan_scanner_1 (ev_t rfl)) ?_
    refine sr_rd rfl (rd_load one_int (ev_t rfl) (fun _ => by first | exact (hs.grow g).B.at_ rfl)) ?_
    refine sr_pu rfl (fun _ => rd_move (ev_t rfl)) ?_
    refine sr_pu rfl (fun _ => rd_add (ev_t rfl) (ev_t rfl) (fun _ => by omega)) ?_
    refine sr_pu rfl (fun _ => rd_ssl str_string (ev_t rfl) (ev_t rfl) (ev_t rfl) (fun _ => by omega)) ?_
    refine sr_pu rfl (fun _ => rd_move (ev_t rfl)) ?_
    refine sr_pu rfl (fun _ => rd_nil (ev_t rfl)) ?_
    refine sr_pu rfl (fun _ => rd_field fo_scan_scanner_1 (ev_t rfl)) ?_
    refine sr_rd rfl (rd_load one_int (ev_t rfl) (fun _ => by first | exact (hs.grow g).B.at_ rfl)) ?_
    refine sr_pu rfl (fun _ => rd_build [_, _, _] ze_api_Token rfl pl_api_Token (parts_cons ev_c (parts_cons (ev_t rfl) (parts_cons (ev_t rfl) (parts_nil)))) rfl) ?_
    refine sr_buildSlice [_, _, _] rfl el_sl_api_Token ze_api_Token (parts_cons (ev_t rfl) (parts_nil)) rfl rfl ?_
    intro b102 w102 N102
    have l102 := N102.ge g
    have g := g.trans (N102.g)
    have B102 := N102.blk
    have hb := below_g g hs.base_le
    have hs := hs.grow g
    have hz0 := hs.base_le
    refine sr_append rfl el_sl_api_Token ze_api_Token rfl (by decide) (ev_t rfl) hs.hc (ev_t rfl) rfl N102.blk.row rfl (by simp only [maxLen]; omega) (by omega) (by omega) ?_
    intro ca' cc' w103 hc' hg103 hat
    have hB := hs.B.keep hg103 (Ne.symm hs.n2)
    have hz := hg103.size
    refine sr_pu rfl (fun _ => rd_nil (ev_t rfl)) ?_
    refine sr_pu rfl (fun _ => rd_field fo_scan_scanner_3 (ev_t rfl)) ?_
    refine sr_store rfl sz_sl_api_Token (ev_t rfl) (ev_t rfl) rfl rfl hB rfl rfl ?_
    intro w105 hg105 hz105 hB
    have hb := below_only (below_only hb hg103 hs.base_le (fun k hk => (hs.hc.lt k hk).1)) hg105 (by have := hs.base_le; omega) (fun k hk => by injection hk with hk; have := hs.hb; omega)
    rw [e] at hc'
    have hs := hs.putC (t := ⟨5, (s.drop p).take (runN isNotLf (s.drop p)), p⟩) hc' hg103 hat hg105 hB
    have g := G.refl w105
    refine sr_sub [(0, _, _), (2, _, _), (4, _, _)] (sub_cons rfl (sub_cons rfl (sub_cons rfl (sub_nil _)))) ?_
    refine sr_nil (hK10 _ _ ?_)
    refine sc_text [3, 3, 3, 0, 3, 3, 3, 3, 2] ?_
    refine sr_pu rfl (fun _ => rd_move (ev_t rfl)) ?_
    refine sr_pu rfl (fun _ => rd_nil (ev_t rfl)) ?_
    refine sr_pu rfl (fun _ => rd_field fo_scan_scanner_1 (ev_t rfl)) ?_
    refine sr_rd rfl (rd_load one_int (ev_t rfl) (fun _ => by first | exact (hs.grow g).B.at_ rfl | exact B102.at_ rfl | exact B102.row)) ?_
    refine sr_pu rfl (fun _ => rd_move (ev_t rfl)) ?_
    refine sr_pu rfl (fun _ => rd_add (ev_t rfl) (ev_t rfl) (fun _ => by omega)) ?_
    refine sr_pu rfl (fun _ => rd_nil (ev_t rfl)) ?_
    refine sr_pu rfl (fun _ => rd_field fo_scan_scanner_1 (ev_t rfl)) ?_
    refine sr_store rfl sz_int (ev_t rfl) (ev_t rfl) rfl rfl (hs.grow g).B rfl rfl ?_
    intro w113 hg113 hz113 hB
    have hb' := below_go hb g hg113 hs.base_le hs.hb
    have hs' := ((hs.grow g).setp (q := p + runN isNotLf (s.drop p)) hg113 hB).scn (by omega) (by rw [List.length_append]; show cs.length + 1 ≤ _; omega) hf k4
    refine sr_sub [(2, _, _)] (sub_cons rfl (sub_nil _)) ?_
    refine sr_nil (hK3 _ _ ?_)
    refine sc_seq fun K11 hK11 => ?_
    refine sc_text [3] ?_
    refine sr_pu rfl (fun _ => rd_assign ev_c) ?_
    refine sr_nil (hK11 _ _ ?_)
    refine sc_ret (t_ret1 rfl rfl ?_)
    rw [hN]; exact ⟨rfl, hs', hb'⟩
  replace h3 : preB [47, 47] (s.drop p) = false := h3
  refine sc_seq fun K12 hK12 => ?_
  refine sc_text [3, 1, 3] ?_
  refine sr_pu rfl (fun _ => rd_move (ev_t rfl)) ?_
  refine sr_pure rfl (rc_call go_scan_letter ev_f (args_cons (ev_t rfl) (args_nil)) rfl) (letter_ok _ _) (fun w116 g116 => ?_)
  have g := g.trans (g116)
  refine sr_pu rfl (fun _ => rd_assign (ev_t rfl)) ?_
  refine sr_sub [(0, _, _), (2, _, _), (3, _, _), (114, _, _)] (sub_cons rfl (sub_cons rfl (sub_cons rfl (sub_cons rfl (sub_nil _))))) ?_
  refine sr_nil (hK12 _ _ ?_)
  refine sc_cond (ev_t rfl) (fun h4 => ?_) (fun h4 => ?_)
  · replace h4 : letterB (cAt s p) = true := h4
    have hn := runN_pos (q := isAlnum) hp (by rw [isAlnum, h4]; rfl)
    have hf := runN_fit isAlnum hp
    have e : ((p : Int) + (runN isAlnum (s.drop p) : Nat)).toNat - (p : Int).toNat = runN isAlnum (s.drop p) := by omega
    refine sc_seq fun K13 hK13 => ?_
    refine sc_text [3, 1, 3] ?_
    refine sr_pu rfl (fun _ => rd_move (ev_t rfl)) ?_
    refine sr_pure rfl (rc_call go_scan_scanner_run ev_f (args_cons (ev_t rfl) (args_cons ev_f (args_nil))) rfl) (run_ok base b s p ts cs _ ((hs.grow g).scn k1 k2 k3 k4) _ isAlnum go_scan_scanner_next_2 alnum_ok) (fun w118 g118 => ?_)
    have g := g.trans (g118)
    refine sr_pu rfl (fun _ => rd_assign (ev_t rfl)) ?_
    refine sr_sub [(0, _, _), (2, _, _), (5, _, _)] (sub_cons rfl (sub_cons rfl (sub_cons rfl (sub_nil _)))) ?_
    refine sr_nil (hK13 _ _ ?_)
    refine sc_seq fun K14 hK14 => ?_
    refine sc_seq fun K15 hK15 => ?_
    refine sc_text [3, 3] ?_
    refine sr_pu rfl (fun _ => rd_move (ev_t rfl)) ?_
    refine sr_pu rfl (fun _ => rd_gt (ev_t rfl) ev_c) ?_
    refine sr_sub [(0, _, _), (2, _, _), (5, _, _), (120, _, _)] (sub_cons rfl (sub_cons rfl (sub_cons rfl (sub_cons rfl (sub_nil _))))) ?_
    refine sr_nil (hK15 _ _ ?_)
    refine sc_cond (ev_t rfl) (fun h5 => ?_) (fun h5 => ?_)
    · have hN : nextF s p ts cs = (p, ts, cs, 3) := by unfold nextF; rw [h1, h2, h3, h4, h5]; rfl
      have hs' := (hs.grow g).scn k1 k2 k3 k4
      have hb' := below_g g hs.base_le
      refine sc_seq fun K16 hK16 => ?_
      refine sc_text [3] ?_
      refine sr_pu rfl (fun _ => rd_assign ev_c) ?_
      refine sr_sub [(0, _, _), (2, _, _), (5, _, _)] (sub_cons rfl (sub_cons rfl (sub_cons rfl (sub_nil _)))) ?_
      refine sr_nil (hK16 _ _ ?_)
      refine sc_ret (t_ret1 rfl rfl ?_)
      rw [hN]; exact ⟨rfl, hs', hb'⟩
    (try simp only [bsimp] at h5)
    refine sc_skip (hK14 _ _ ?_)
    refine sc_sub [(0, _, _), (2, _, _), (5, _, _)] (sub_cons rfl (sub_cons rfl (sub_cons rfl (sub_nil _)))) ?_
    refine sc_seq fun K17 hK17 => ?_
    refine sc_text [3] ?_
    refine sr_pu rfl (fun _ => rd_assign ev_c) ?_
    refine sr_nil (hK17 _ _ ?_)
    refine sc_seq fun K18 hK18 => ?_
    refine sc_seq fun K19 hK19 => ?_
    refine sc_draw [3, 3, 3, 0, 3, 3, 3, 0, 3, 3, 3, 0, 3, 3, 3, 1] [true, true, true, true, true, true, true, true, true, true, true, true, true, true, true, true] [0, 1, 3, 7, 0, 16, 48, 112, 0, 256, 768, 1792, 0, 7936, 16383, 32767] mix (by kernel_rfl) ?_
    have g := g.trans (G.drew _)
    refine sr_pu rfl (fun _ => rd_move (ev_t rfl)) ?_
    refine sr_pu rfl (fun _ => rd_nil (ev_t rfl)) ?_
    refine sr_pu rfl (fun _ => rd_field fo_scan_scanner_0 (ev_t rfl)) ?_
    refine sr_rd rfl (rd_load one_string (ev_t rfl) (fun _ => by first | exact (hs.grow g).B.at_ rfl)) ?_
    refine sr_pu rfl (fun _ => rd_move (ev_t rfl)) ?_
    refine sr_pu rfl (fun _ => rd_nil (ev_t rfl)) ?_
    refine sr_pu rfl (fun _ => rd_field fo_scan_scanner_1 (ev_t rfl)) ?_
    refine sr_rd rfl (rd_load one_int (ev_t rfl) (fun _ => by first | exact (hs.grow g).B.at_ rfl)) ?_
    refine sr_pu rfl (fun _ => rd_move (ev_t rfl)) ?_
    refine sr_pu rfl (fun _ => rd_nil (ev_t rfl)) ?_
    refine sr_pu rfl (fun _ => rd_field fo_scan_scanner_1 (ev_t rfl)) ?_
    refine sr_rd rfl (rd_load one_int (ev_t rfl) (fun _ => by first | exact (hs.grow g).B.at_ rfl)) ?_
    refine sr_pu rfl (fun _ => rd_move (ev_t rfl)) ?_
    refine sr_pu rfl (fun _ => rd_add (ev_t rfl) (ev_t rfl) (fun _ => by omega)) ?_
    refine sr_pu rfl (fun _ => rd_ssl str_string (ev_t rfl) (ev_t rfl) (ev_t rfl) (fun _ => by omega)) ?_
    refine sr_pure rfl (rc_call go_scan_Keyword ev_f (args_cons (ev_t rfl) (args_nil)) rfl) (keyword_ok _ _) (fun w136 g136 => ?_)
    have g := g.trans (g136)
    refine sr_sub [(0, _, _), (2, _, _), (5, _, _), (6, _, _), (136, _, _)] (sub_cons rfl (sub_cons rfl (sub_cons rfl (sub_cons rfl (sub_cons rfl (sub_nil _)))))) ?_
    refine sr_nil (hK19 _ _ ?_)
    refine sc_cond (ev_t rfl) (fun h6 => ?_) (fun h6 => ?_)
    · rw [e] at h6
      replace h6 : inB kws ((s.drop p).take (runN isAlnum (s.drop p))) = true := h6
      have hN : nextF s p ts cs = (p + runN isAlnum (s.drop p), ts ++ [⟨3, (s.drop p).take (runN isAlnum (s.drop p)), p⟩], cs, 0) := by unfold nextF; rw [h1, h2, h3, h4, h5, wordK, h6]; rfl
      refine sc_text [3] ?_
      refine sr_pu rfl (fun _ => rd_assign ev_c) ?_
      refine sr_sub [(0, _, _), (2, _, _), (5, _, _), (6, _, _)] (sub_cons rfl (sub_cons rfl (sub_cons rfl (sub_cons rfl (sub_nil _))))) ?_
      refine sr_nil (hK18 _ _ ?_)
      refine sc_text [3, 3, 3, 2] ?_
      refine sr_pu rfl (fun _ => rd_move (ev_t rfl)) ?_
      refine sr_pu rfl (fun _ => rd_move (ev_t rfl)) ?_
      refine sr_pu rfl (fun _ => rd_move (ev_t rfl)) ?_
      refine sr_call rfl (rc_call go_scan_scanner_put ev_f (args_cons (ev_t rfl) (args_cons (ev_t rfl) (args_cons (ev_t rfl) (args_nil)))) rfl) (put_ok base b s p ts cs _ _ _ ((hs.grow g).scn k1 k2 k3 k4) hn hf) ?_
      rintro v140 w140 ⟨rfl, hs', hb'⟩
      refine ⟨fun h => absurd h (by decide), ?_⟩
      have hb' := (below_g g hs.base_le).trans hb'
      refine sr_sub [(2, _, _)] (sub_cons rfl (sub_nil _)) ?_
      refine sr_nil (hK3 _ _ ?_)
      refine sc_seq fun K20 hK20 => ?_
      refine sc_text [3] ?_
      refine sr_pu rfl (fun _ => rd_assign ev_c) ?_
      refine sr_nil (hK20 _ _ ?_)
      refine sc_ret (t_ret1 rfl rfl ?_)
      rw [hN]; exact ⟨rfl, hs', hb'⟩
    rw [e] at h6
    replace h6 : inB kws ((s.drop p).take (runN isAlnum (s.drop p))) = false := h6
    have hN : nextF s p ts cs = (p + runN isAlnum (s.drop p), ts ++ [⟨1, (s.drop p).take (runN isAlnum (s.drop p)), p⟩], cs, 0) := by unfold nextF; rw [h1, h2, h3, h4, h5, wordK, h6]; rfl
    refine sc_skip (hK18 _ _ ?_)
    refine sc_sub [(0, _, _), (2, _, _), (5, _, _), (6, _, _)] (sub_cons rfl (sub_cons rfl (sub_cons rfl (sub_cons rfl (sub_nil _))))) ?_
    refine sc_text [3, 3, 3, 2] ?_
    refine sr_pu rfl (fun _ => rd_move (ev_t rfl)) ?_
    refine sr_pu rfl (fun _ => rd_move (ev_t rfl)) ?_
    refine sr_pu rfl (fun _ => rd_move (ev_t rfl)) ?_
    refine sr_call rfl (rc_call go_scan_scanner_put ev_f (args_cons (ev_t rfl) (args_cons (ev_t rfl) (args_cons (ev_t rfl) (args_nil)))) rfl) (put_ok base b s p ts cs _ _ _ ((hs.grow g).scn k1 k2 k3 k4) hn hf) ?_
    rintro v140 w140 ⟨rfl, hs', hb'⟩
    refine ⟨fun h => absurd h (by decide), ?_⟩
    have hb' := (below_g g hs.base_le).trans hb'
    refine sr_sub [(2, _, _)] (sub_cons rfl (sub_nil _)) ?_
    refine sr_nil (hK3 _ _ ?_)
    refine sc_seq fun K21 hK21 => ?_
    refine sc_text [3] ?_
    refine sr_pu rfl (fun _ => rd_assign ev_c) ?_
    refine sr_nil (hK21 _ _ ?_)
    refine sc_ret (t_ret1 rfl rfl ?_)
    rw [hN]; exact ⟨rfl, hs', hb'⟩
  replace h4 : letterB (cAt s p) = false := h4
  refine sc_seq fun K22 hK22 => ?_
  refine sc_text [3, 1, 3] ?_
  refine sr_pu rfl (fun _ => rd_move (ev_t rfl)) ?_
  refine sr_pure rfl (rc_call go_scan_digit ev_f (args_cons (ev_t rfl) (args_nil)) rfl) (digit_ok _ _) (fun w143 g143 => ?_)
  have g := g.trans (g143)
  refine sr_pu rfl (fun _ => rd_assign (ev_t rfl)) ?_
  refine sr_sub [(0, _, _), (2, _, _), (3, _, _), (141, _, _)] (sub_cons rfl (sub_cons rfl (sub_cons rfl (sub_cons rfl (sub_nil _))))) ?_
  refine sr_nil (hK22 _ _ ?_)
  refine sc_cond (ev_t rfl) (fun h7 => ?_) (fun h7 => ?_)
  · replace h7 : digitB (cAt s p) = true := h7
    have hn := runN_pos (q := digitB) hp h7
    have hf := runN_fit digitB hp
    have e : ((p : Int) + (runN digitB (s.drop p) : Nat)).toNat - (p : Int).toNat = runN digitB (s.drop p) := by omega
    refine sc_seq fun K23 hK23 => ?_
    refine sc_text [3, 1, 3] ?_
    refine sr_pu rfl (fun _ => rd_move (ev_t rfl)) ?_
    refine sr_pure rfl (rc_call go_scan_scanner_run ev_f (args_cons (ev_t rfl) (args_cons ev_f (args_nil))) rfl) (run_ok base b s p ts cs _ ((hs.grow g).scn k1 k2 k3 k4) _ digitB go_scan_digit digit_ok) (fun w145 g145 => ?_)
    have g := g.trans (g145)
    refine sr_pu rfl (fun _ => rd_assign (ev_t rfl)) ?_
    refine sr_sub [(0, _, _), (2, _, _), (3, _, _), (7, _, _)] (sub_cons rfl (sub_cons rfl (sub_cons rfl (sub_cons rfl (sub_nil _))))) ?_
    refine sr_nil (hK23 _ _ ?_)
    refine sc_seq fun K24 hK24 => ?_
    refine sc_seq fun K25 hK25 => ?_
    refine sc_draw [3, 3, 3, 3, 3, 3, 3, 3, 3, 3, 0, 3, 3, 3, 3, 3, 0, 3, 3, 3, 3, 3, 3, 0, 3, 3, 3, 0, 3, 3, 3, 1, 3, 3] [true, true, true, true, true, true, true, true, true, true, true, true, true, true, true, true, true, true, true, true, true, true, true, true, true, true, true, true, true, true, true, true, true, true] [0, 1, 3, 7, 15, 31, 63, 127, 255, 511, 1023, 127, 4095, 127, 8319, 24703, 57471, 123007, 262143, 524287, 1048575, 2097151, 4194303, 8388607, 1048575, 17825791, 51380223, 118489087, 1048575, 521142271, 1073741823, 2147483647, 4294967295, 8589934591] mix (by kernel_rfl) ?_
    have g := g.trans (G.drew _)
    refine sr_pu rfl (fun _ => rd_move (ev_t rfl)) ?_
    refine sr_pu rfl (fun _ => rd_eq (ev_t rfl) ev_c) ?_
    refine sr_pu rfl (fun _ => rd_move (ev_t rfl)) ?_
    refine sr_pug rfl rfl rfl (fun _ => rd_move (ev_t rfl)) ?_
    refine sr_pug rfl rfl rfl (fun _ => rd_gt (ev_u rfl id) ev_c) ?_
    refine sr_pu rfl (fun _ => rd_pick_and (ev_t rfl) (ev_u rfl id)) ?_
    refine sr_pu rfl (fun _ => rd_move (ev_t rfl)) ?_
    refine sr_pug rfl rfl rfl (fun _ => rd_move (ev_t rfl)) ?_
    refine sr_pug rfl rfl rfl (fun _ => rd_nil (ev_u rfl id)) ?_
    refine sr_pug rfl rfl rfl (fun _ => rd_field fo_scan_scanner_1 (ev_u rfl id)) ?_
    refine sr_rdg rfl rfl rfl (rd_load one_int (ev_u rfl id) (fun _ => by first | exact (hs.grow g).B.at_ rfl)) ?_
    refine sr_pug rfl rfl rfl (fun _ => rd_move (ev_t rfl)) ?_
    refine sr_pug rfl rfl rfl (fun _ => rd_add (ev_u rfl id) (ev_u rfl id) (fun _ => by omega)) ?_
    refine sr_pug rfl rfl rfl (fun _ => rd_move (ev_t rfl)) ?_
    refine sr_pug rfl rfl rfl (fun _ => rd_nil (ev_u rfl id)) ?_
    refine sr_pug rfl rfl rfl (fun _ => rd_field fo_scan_scanner_0 (ev_u rfl id)) ?_
    refine sr_rdg rfl rfl rfl (rd_load one_string (ev_u rfl id) (fun _ => by first | exact (hs.grow g).B.at_ rfl)) ?_
    refine sr_pug rfl rfl rfl (fun _ => rd_slen str_string (ev_u rfl id)) ?_
    refine sr_pug rfl rfl rfl (fun _ => rd_lt (ev_u rfl id) (ev_u rfl id)) ?_
    refine sr_pug rfl rfl rfl (fun _ => rd_move (ev_u rfl id)) ?_
    refine sr_pug rfl rfl rfl (fun _ => rd_move (ev_t rfl)) ?_
    refine sr_pug rfl rfl rfl (fun _ => rd_nil (ev_u rfl id)) ?_
    refine sr_pug rfl rfl rfl (fun _ => rd_field fo_scan_scanner_0 (ev_u rfl id)) ?_
    refine sr_rdg rfl rfl rfl (rd_load one_string (ev_u rfl id) (fun _ => by first | exact (hs.grow g).B.at_ rfl)) ?_
    refine sr_pug rfl rfl rfl (fun _ => rd_move (ev_t rfl)) ?_
    refine sr_pug rfl rfl rfl (fun _ => rd_nil (ev_u rfl id)) ?_
    refine sr_pug rfl rfl rfl (fun _ => rd_field fo_scan_scanner_1 (ev_u rfl id)) ?_
    refine sr_rdg rfl rfl rfl (rd_load one_int (ev_u rfl id) (fun _ => by first | exact (hs.grow g).B.at_ rfl)) ?_
    refine sr_pug rfl rfl rfl (fun _ => rd_move (ev_t rfl)) ?_
    refine sr_pug rfl rfl rfl (fun _ => rd_add (ev_u rfl id) (ev_u rfl id) (fun _ => by omega)) ?_
    refine sr_pug rfl rfl rfl (fun _ => rd_sidx str_string (ev_u rfl id) (ev_u rfl id) (fun hc => by have := of_decide_eq_true hc.2; omega)) ?_
    refine sr_pureg rfl rfl rfl (fun _ => (rc_call go_scan_letter ev_f (args_cons (ev_u rfl id) (args_nil)) rfl)) (fun hc => letter_ok _ _) (fun w177 g177 => ?_)
    have g := g.trans (g177)
    refine sr_pug rfl rfl rfl (fun _ => rd_pick_and (ev_u rfl id) (ev_u rfl id)) ?_
    refine sr_pu rfl (fun _ => rd_pick_or (ev_t rfl) (ev_u rfl id)) ?_
    refine sr_sub [(0, _, _), (2, _, _), (7, _, _), (179, _, _)] (sub_cons rfl (sub_cons rfl (sub_cons rfl (sub_cons rfl (sub_nil _))))) ?_
    refine sr_nil (hK25 _ _ ?_)
    refine sc_cond (ev_t rfl) (fun h8 => ?_) (fun h8 => ?_)
    · replace h8 : badD s p (runN digitB (s.drop p)) = true := h8
      have hN : nextF s p ts cs = (p, ts, cs, 4) := by unfold nextF; rw [h1, h2, h3, h4, h7, h8]; rfl
      have hs' := (hs.grow g).scn k1 k2 k3 k4
      have hb' := below_g g hs.base_le
      refine sc_seq fun K26 hK26 => ?_
      refine sc_text [3] ?_
      refine sr_pu rfl (fun _ => rd_assign ev_c) ?_
      refine sr_sub [(0, _, _), (2, _, _), (7, _, _)] (sub_cons rfl (sub_cons rfl (sub_cons rfl (sub_nil _)))) ?_
      refine sr_nil (hK26 _ _ ?_)
      refine sc_ret (t_ret1 rfl rfl ?_)
      rw [hN]; exact ⟨rfl, hs', hb'⟩
    replace h8 : badD s p (runN digitB (s.drop p)) = false := h8
    obtain ⟨ev, he1, he2⟩ := hL.err
    have hdl : ((s.drop p).take (runN digitB (s.drop p))).length = runN digitB (s.drop p) := by rw [List.length_take, List.length_drop]; omega
    refine sc_skip (hK24 _ _ ?_)
    refine sc_sub [(0, _, _), (2, _, _), (7, _, _)] (sub_cons rfl (sub_cons rfl (sub_cons rfl (sub_nil _)))) ?_
    refine sc_seq fun K27 hK27 => ?_
    refine sc_seq fun K28 hK28 => ?_
    refine sc_draw [3, 3, 3, 0, 3, 3, 3, 0, 3, 3, 3, 0, 3, 3, 3, 1, 3, 3, 3, 3, 3] [true, true, true, true, true, true, true, true, true, true, true, true, true, true, true, true, true, true, true, true, true] [0, 1, 3, 7, 0, 16, 48, 112, 0, 256, 768, 1792, 0, 7936, 16383, 32767, 65535, 131071, 131071, 262143, 1048575] mix (by kernel_rfl) ?_
    have g := g.trans (G.drew _)
    refine sr_pu rfl (fun _ => rd_move (ev_t rfl)) ?_
    refine sr_pu rfl (fun _ => rd_nil (ev_t rfl)) ?_
    refine sr_pu rfl (fun _ => rd_field fo_scan_scanner_0 (ev_t rfl)) ?_
    refine sr_rd rfl (rd_load one_string (ev_t rfl) (fun _ => by first | exact (hs.grow g).B.at_ rfl)) ?_
    refine sr_pu rfl (fun _ => rd_move (ev_t rfl)) ?_
    refine sr_pu rfl (fun _ => rd_nil (ev_t rfl)) ?_
    refine sr_pu rfl (fun _ => rd_field fo_scan_scanner_1 (ev_t rfl)) ?_
    refine sr_rd rfl (rd_load one_int (ev_t rfl) (fun _ => by first | exact (hs.grow g).B.at_ rfl)) ?_
    refine sr_pu rfl (fun _ => rd_move (ev_t rfl)) ?_
    refine sr_pu rfl (fun _ => rd_nil (ev_t rfl)) ?_
    refine sr_pu rfl (fun _ => rd_field fo_scan_scanner_1 (ev_t rfl)) ?_
    refine sr_rd rfl (rd_load one_int (ev_t rfl) (fun _ => by first | exact (hs.grow g).B.at_ rfl)) ?_
    refine sr_pu rfl (fun _ => rd_move (ev_t rfl)) ?_
    refine sr_pu rfl (fun _ => rd_add (ev_t rfl) (ev_t rfl) (fun _ => by omega)) ?_
    refine sr_pu rfl (fun _ => rd_ssl str_string (ev_t rfl) (ev_t rfl) (ev_t rfl) (fun _ => by omega)) ?_
    refine sr_call rfl (rc_call go_strconv_ParseInt ev_f (args_cons (ev_t rfl) (args_cons ev_c (args_cons ev_c (args_nil)))) rfl) (parse_ok _ (by rw [e]; exact digits_allD s p) (by rw [e]; intro h0; have h0 := congrArg List.length h0; rw [show (List.take (runN digitB (s.drop p)) (List.drop (p : Int).toNat s)).length = runN digitB (s.drop p) from hdl] at h0; simp at h0; omega) (by rw [e]; show ((s.drop p).take (runN digitB (s.drop p))).length ≤ 20000; omega) _ ev (cell_grow g he1) he2) ?_
    rintro v196 w196 ⟨⟨x, er, rfl, her, hnil⟩, g196⟩
    refine ⟨fun _ => g196, ?_⟩
    have g := g.trans g196
    replace hnil : nilV er = decide (valN 0 ((s.drop p).take (runN digitB (s.drop p))) < 9223372036854775808) := by rw [e] at hnil; exact hnil
    refine sr_pu rfl (fun _ => rd_move (ev_t rfl)) ?_
    refine sr_pu rfl (fun _ => rd_extract (ev_t rfl) rfl) ?_
    refine sr_pu rfl (fun _ => rd_extract (ev_t rfl) rfl) ?_
    refine sr_pu rfl (fun _ => rd_assign (ev_t rfl)) ?_
    refine sr_pu rfl (fun _ => rd_assign (ev_t rfl)) ?_
    refine sr_sub [(0, _, _), (2, _, _), (7, _, _), (9, _, _)] (sub_cons rfl (sub_cons rfl (sub_cons rfl (sub_cons rfl (sub_nil _))))) ?_
    refine sr_nil (hK28 _ _ ?_)
    refine sc_seq fun K29 hK29 => ?_
    refine sc_text [3, 3] ?_
    refine sr_pu rfl (fun _ => rd_move (ev_t rfl)) ?_
    refine sr_pu rfl (fun _ => rd_ine if_error (ev_t rfl) her) ?_
    refine sr_sub [(0, _, _), (2, _, _), (7, _, _), (200, _, _)] (sub_cons rfl (sub_cons rfl (sub_cons rfl (sub_cons rfl (sub_nil _))))) ?_
    refine sr_nil (hK29 _ _ ?_)
    refine sc_cond (ev_t rfl) (fun h9 => ?_) (fun h9 => ?_)
    · have h9 : decide (valN 0 ((s.drop p).take (runN digitB (s.drop p))) < 9223372036854775808) = false := by replace h9 : (!nilV er) = true := h9; rw [hnil] at h9; simpa using h9
      have hN : nextF s p ts cs = (p, ts, cs, 4) := by unfold nextF; rw [h1, h2, h3, h4, h7, h8, h9]; rfl
      have hs' := (hs.grow g).scn k1 k2 k3 k4
      have hb' := below_g g hs.base_le
      refine sc_seq fun K30 hK30 => ?_
      refine sc_text [3] ?_
      refine sr_pu rfl (fun _ => rd_assign ev_c) ?_
      refine sr_sub [(0, _, _), (2, _, _), (7, _, _)] (sub_cons rfl (sub_cons rfl (sub_cons rfl (sub_nil _)))) ?_
      refine sr_nil (hK30 _ _ ?_)
      refine sc_ret (t_ret1 rfl rfl ?_)
      rw [hN]; exact ⟨rfl, hs', hb'⟩
    have h9 : decide (valN 0 ((s.drop p).take (runN digitB (s.drop p))) < 9223372036854775808) = true := by replace h9 : (!nilV er) = false := h9; rw [hnil] at h9; simpa using h9
    have hN : nextF s p ts cs = (p + runN digitB (s.drop p), ts ++ [⟨2, (s.drop p).take (runN digitB (s.drop p)), p⟩], cs, 0) := by unfold nextF; rw [h1, h2, h3, h4, h7, h8, h9]; rfl
    refine sc_skip (hK27 _ _ ?_)
    refine sc_sub [(0, _, _), (2, _, _), (7, _, _)] (sub_cons rfl (sub_cons rfl (sub_cons rfl (sub_nil _)))) ?_
    refine sc_text [3, 3, 2] ?_
    refine sr_pu rfl (fun _ => rd_move (ev_t rfl)) ?_
    refine sr_pu rfl (fun _ => rd_move (ev_t rfl)) ?_
    refine sr_call rfl (rc_call go_scan_scanner_put ev_f (args_cons (ev_t rfl) (args_cons ev_c (args_cons (ev_t rfl) (args_nil)))) rfl) (put_ok base b s p ts cs _ _ _ ((hs.grow g).scn k1 k2 k3 k4) hn hf) ?_
    rintro v203 w203 ⟨rfl, hs', hb'⟩
    refine ⟨fun h => absurd h (by decide), ?_⟩
    have hb' := (below_g g hs.base_le).trans hb'
    refine sr_sub [(2, _, _)] (sub_cons rfl (sub_nil _)) ?_
    refine sr_nil (hK3 _ _ ?_)
    refine sc_seq fun K31 hK31 => ?_
    refine sc_text [3] ?_
    refine sr_pu rfl (fun _ => rd_assign ev_c) ?_
    refine sr_nil (hK31 _ _ ?_)
    refine sc_ret (t_ret1 rfl rfl ?_)
    rw [hN]; exact ⟨rfl, hs', hb'⟩
  replace h7 : digitB (cAt s p) = false := h7
  refine sc_seq fun K32 hK32 => ?_
  refine sc_seq fun K33 hK33 => ?_
  refine sc_text [0, 3] ?_
  refine sr_rd rfl (rd_loads agg_27_string ev_g rfl (fun _ => (hL.grow g).ops)) ?_
  refine sr_pu rfl (fun _ => rd_move ev_c) ?_
  refine sr_sub [(0, _, _), (2, _, _), (21, _, _), (22, _, _)] (sub_cons rfl (sub_cons rfl (sub_cons rfl (sub_cons rfl (sub_nil _))))) ?_
  refine sr_nil (hK33 _ _ ?_)
  refine sc_block ?_
  refine sc_loop (fun (i : Nat) u => i ≤ 27 ∧ (∀ j < i, preB (opsL.getD j []) (s.drop p) = false) ∧ G w u) (fun i => [(0, True, .pointer (some ⟨b, 0, none⟩)), (21, True, .agg (opsL.map Str).toArray), (22, True, .int .i64 i)]) (fun i => 27 - i) 0 ⟨by omega, by intro j hj; omega, g⟩ (sub_cons rfl (sub_cons rfl (sub_cons rfl (sub_nil _)))) ?_
  rintro i u ⟨hi, hpre, g⟩
  refine sc_seq fun K34 hK34 => ?_
  refine sc_text [3] ?_
  refine sr_pu rfl (fun _ => rd_lt (ev_t rfl) ev_c) ?_
  refine sr_nil (hK34 _ _ ?_)
  refine sc_seq fun K35 hK35 => ?_
  refine sc_cond (ev_t rfl) (fun h10 => ?_) (fun h10 => ?_)
  · simp only [decide_eq_true_eq] at h10
    have hi27 : i < 27 := by omega
    refine sc_skip (hK35 _ _ ?_)
    refine sc_sub [(0, _, _), (21, _, _), (22, _, _)] (sub_cons rfl (sub_cons rfl (sub_cons rfl (sub_nil _)))) ?_
    refine sc_seq fun K36 hK36 => ?_
    refine sc_block ?_
    refine sc_seq fun K37 hK37 => ?_
    refine sc_text [3, 3] ?_
    refine sr_pu rfl (fun _ => rd_aidx ar_27_string (ev_t rfl) (ev_t rfl) (fun _ => by omega) (fun _ => opsL_at hi27)) ?_
    refine sr_pu rfl (fun _ => rd_assign (ev_t rfl)) ?_
    refine sr_sub [(0, _, _), (11, _, _), (21, _, _), (22, _, _)] (sub_cons rfl (sub_cons rfl (sub_cons rfl (sub_cons rfl (sub_nil _))))) ?_
    refine sr_nil (hK37 _ _ ?_)
    refine sc_seq fun K38 hK38 => ?_
    refine sc_draw [3, 3, 3, 0, 3, 3, 3, 0, 3, 3, 1] [true, true, true, true, true, true, true, true, true, true, true] [0, 1, 3, 7, 0, 16, 48, 112, 255, 0, 1023] mix (by kernel_rfl) ?_
    have g := g.trans (G.drew _)
    refine sr_pu rfl (fun _ => rd_move (ev_t rfl)) ?_
    refine sr_pu rfl (fun _ => rd_nil (ev_t rfl)) ?_
    refine sr_pu rfl (fun _ => rd_field fo_scan_scanner_0 (ev_t rfl)) ?_
    refine sr_rd rfl (rd_load one_string (ev_t rfl) (fun _ => by first | exact (hs.grow g).B.at_ rfl)) ?_
    refine sr_pu rfl (fun _ => rd_move (ev_t rfl)) ?_
    refine sr_pu rfl (fun _ => rd_nil (ev_t rfl)) ?_
    refine sr_pu rfl (fun _ => rd_field fo_scan_scanner_1 (ev_t rfl)) ?_
    refine sr_rd rfl (rd_load one_int (ev_t rfl) (fun _ => by first | exact (hs.grow g).B.at_ rfl)) ?_
    refine sr_pu rfl (fun _ => rd_ssl_from str_string (ev_t rfl) (ev_t rfl) (fun _ => by omega)) ?_
    refine sr_pu rfl (fun _ => rd_move (ev_t rfl)) ?_
    refine sr_pure rfl (rc_call go_strings_HasPrefix ev_f (args_cons (ev_t rfl) (args_cons (ev_t rfl) (args_nil))) rfl) (shasprefix_ok _ _ _) (fun w35 g35 => ?_)
    have g := g.trans (g35)
    refine sr_sub [(0, _, _), (11, _, _), (21, _, _), (22, _, _), (35, _, _)] (sub_cons rfl (sub_cons rfl (sub_cons rfl (sub_cons rfl (sub_cons rfl (sub_nil _)))))) ?_
    refine sr_nil (hK38 _ _ ?_)
    refine sc_cond (ev_t rfl) (fun h11 => ?_) (fun h11 => ?_)
    · replace h11 : preB (opsL.getD i []) (s.drop p) = true := h11
      have h0 := opLen_some hi27 hpre h11
      have hn := opsL_pos i hi27
      have hf : p + (opsL.getD i []).length ≤ s.length := by have := (preB_len h11).1; rw [List.length_drop] at this; omega
      have hN : nextF s p ts cs = (p + (opsL.getD i []).length, ts ++ [⟨4, (s.drop p).take (opsL.getD i []).length, p⟩], cs, 0) := by
        unfold nextF; rw [h1, h2, h3, h4, h7, h0, show Nat.beq (opsL.getD i []).length 0 = false by rw [Bool.eq_false_iff]; intro h; have := Nat.eq_of_beq_eq_true h; omega]; rfl
      refine sc_seq fun K39 hK39 => ?_
      refine sc_text [3, 3, 3, 2] ?_
      refine sr_pu rfl (fun _ => rd_move (ev_t rfl)) ?_
      refine sr_pu rfl (fun _ => rd_move (ev_t rfl)) ?_
      refine sr_pu rfl (fun _ => rd_slen str_string (ev_t rfl)) ?_
      refine sr_call rfl (rc_call go_scan_scanner_put ev_f (args_cons (ev_t rfl) (args_cons ev_c (args_cons (ev_t rfl) (args_nil)))) rfl) (put_ok base b s p ts cs _ _ _ ((hs.grow g).scn k1 k2 k3 k4) hn hf) ?_
      rintro v39 w39 ⟨rfl, hs', hb'⟩
      refine ⟨fun h => absurd h (by decide), ?_⟩
      have hb' := (below_g g hs.base_le).trans hb'
      refine sr_sub [(0, _, _), (21, _, _), (22, _, _)] (sub_cons rfl (sub_cons rfl (sub_cons rfl (sub_nil _)))) ?_
      refine sr_nil (hK39 _ _ ?_)
      refine sc_seq fun K40 hK40 => ?_
      refine sc_text [3] ?_
      refine sr_pu rfl (fun _ => rd_assign ev_c) ?_
      refine sr_nil (hK40 _ _ ?_)
      refine sc_sub [(0, _, _), (2, _, _), (21, _, _), (22, _, _)] (sub_cons rfl (sub_cons rfl (sub_cons rfl (sub_cons rfl (sub_nil _))))) ?_
      refine sc_ret (t_ret1 rfl rfl ?_)
      rw [hN]; exact ⟨rfl, hs', hb'⟩
    (try simp only [bsimp] at h11)
    refine sc_skip (hK36 _ _ ?_)
    refine sc_sub [(0, _, _), (21, _, _), (22, _, _)] (sub_cons rfl (sub_cons rfl (sub_cons rfl (sub_nil _)))) ?_
    refine sc_text [3, 3] ?_
    refine sr_pu rfl (fun _ => rd_add (ev_t rfl) ev_c (fun _ => by omega)) ?_
    refine sr_pu rfl (fun _ => rd_move (ev_t rfl)) ?_
    refine sr_sub [(0, _, _), (21, _, _), (22, _, _)] (sub_cons rfl (sub_cons rfl (sub_cons rfl (sub_nil _)))) ?_
    refine sr_nil (fun a ha => ?_)
    exact ⟨i + 1, ha, ⟨by omega, by
      intro j hj
      by_cases e : j = i
      · rw [e]; exact h11
      · exact hpre j (by omega), g⟩, by omega⟩
  simp only [decide_eq_false_iff_not] at h10
  have hi27 : i = 27 := by omega
  subst hi27
  have h0 := opLen_none hpre
  have hN : nextF s p ts cs = (p, ts, cs, 4) := by unfold nextF; rw [h1, h2, h3, h4, h7, h0]; rfl
  have hs' := (hs.grow g).scn k1 k2 k3 k4
  have hb' := below_g g hs.base_le
  refine sc_exit rfl (hK32 _ _ ?_)
  refine sc_sub [] (sub_nil _) ?_
  refine sc_seq fun K41 hK41 => ?_
  refine sc_text [3] ?_
  refine sr_pu rfl (fun _ => rd_assign ev_c) ?_
  refine sr_nil (hK41 _ _ ?_)
  refine sc_ret (t_ret1 rfl rfl ?_)
  rw [hN]; exact ⟨rfl, hs', hb'⟩
end Go.Rk
