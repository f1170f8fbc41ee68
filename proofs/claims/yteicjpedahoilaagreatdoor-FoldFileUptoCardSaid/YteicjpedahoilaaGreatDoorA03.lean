/- Merged texts of one road: ScanA, ScanB, ScanC, ScanD, LayP, ScanP. Conditions: each text's own. -/
import Derived.Test.YteicjpedahoilaaGreatDoorA02
import Derived.Shelf.LaysC
import Derived.Shelf.Strconv.ParseIntPublic10
set_option linter.unusedSimpArgs false
set_option linter.unusedVariables false
namespace Go.Rk
open Go
theorem bsimp : True := trivial
def letterB (c : Int) : Bool := (decide (97 ≤ c) && decide (c ≤ 122) || decide (65 ≤ c) && decide (c ≤ 90)) || decide (c = 95)
def digitB (c : Int) : Bool := decide (48 ≤ c) && decide (c ≤ 57)
theorem letter_ok (c : Int) (w : World) : Ret PP fn_scan_letter #[.int .u8 c] w fun v w' => v = .bool (letterB c) ∧ G w w' := by
  have g := G.refl w
  refine ret_of_sc (m := 21) func_scan_letter rfl rfl [(0, True, _)] (sub_cons rfl (sub_nil _)) ?_
  refine sc_seq fun K1 hK1 => ?_
  refine sc_text [3] ?_
  refine sr_pu rfl (fun _ => rd_assign ev_c) ?_
  refine sr_nil (hK1 _ _ ?_)
  refine sc_seq fun K2 hK2 => ?_
  refine sc_text [3, 3, 3, 3, 3, 3, 3, 3, 3, 3, 3, 3, 3, 3, 3, 3, 3, 3, 3] ?_
  refine sr_pu rfl (fun _ => rd_move (ev_t rfl)) ?_
  refine sr_pu rfl (fun _ => rd_ge (ev_t rfl) ev_c) ?_
  refine sr_pu rfl (fun _ => rd_move (ev_t rfl)) ?_
  refine sr_pug rfl rfl rfl (fun _ => rd_move (ev_t rfl)) ?_
  refine sr_pug rfl rfl rfl (fun _ => rd_le (ev_u rfl id) ev_c) ?_
  refine sr_pu rfl (fun _ => rd_pick_and (ev_t rfl) (ev_u rfl id)) ?_
  refine sr_pu rfl (fun _ => rd_move (ev_t rfl)) ?_
  refine sr_pug rfl rfl rfl (fun _ => rd_move (ev_t rfl)) ?_
  refine sr_pug rfl rfl rfl (fun _ => rd_ge (ev_u rfl id) ev_c) ?_
  refine sr_pug rfl rfl rfl (fun _ => rd_move (ev_u rfl id)) ?_
  refine sr_pug rfl rfl rfl (fun _ => rd_move (ev_t rfl)) ?_
  refine sr_pug rfl rfl rfl (fun _ => rd_le (ev_u rfl id) ev_c) ?_
  refine sr_pug rfl rfl rfl (fun _ => rd_pick_and (ev_u rfl id) (ev_u rfl id)) ?_
  refine sr_pu rfl (fun _ => rd_pick_or (ev_t rfl) (ev_u rfl id)) ?_
  refine sr_pu rfl (fun _ => rd_move (ev_t rfl)) ?_
  refine sr_pug rfl rfl rfl (fun _ => rd_move (ev_t rfl)) ?_
  refine sr_pug rfl rfl rfl (fun _ => rd_eq (ev_u rfl id) ev_c) ?_
  refine sr_pu rfl (fun _ => rd_pick_or (ev_t rfl) (ev_u rfl id)) ?_
  refine sr_pu rfl (fun _ => rd_assign (ev_t rfl)) ?_
  refine sr_sub [(2, _, _)] (sub_cons rfl (sub_nil _)) ?_
  refine sr_nil (hK2 _ _ ?_)
  refine sc_ret (t_ret1 rfl rfl ?_)
  exact ⟨rfl, g⟩
theorem digit_ok (c : Int) (w : World) : Ret PP fn_scan_digit #[.int .u8 c] w fun v w' => v = .bool (digitB c) ∧ G w w' := by
  have g := G.refl w
  refine ret_of_sc (m := 9) func_scan_digit rfl rfl [(0, True, _)] (sub_cons rfl (sub_nil _)) ?_
  refine sc_seq fun K1 hK1 => ?_
  refine sc_text [3] ?_
  refine sr_pu rfl (fun _ => rd_assign ev_c) ?_
  refine sr_nil (hK1 _ _ ?_)
  refine sc_seq fun K2 hK2 => ?_
  refine sc_text [3, 3, 3, 3, 3, 3, 3] ?_
  refine sr_pu rfl (fun _ => rd_move (ev_t rfl)) ?_
  refine sr_pu rfl (fun _ => rd_ge (ev_t rfl) ev_c) ?_
  refine sr_pu rfl (fun _ => rd_move (ev_t rfl)) ?_
  refine sr_pug rfl rfl rfl (fun _ => rd_move (ev_t rfl)) ?_
  refine sr_pug rfl rfl rfl (fun _ => rd_le (ev_u rfl id) ev_c) ?_
  refine sr_pu rfl (fun _ => rd_pick_and (ev_t rfl) (ev_u rfl id)) ?_
  refine sr_pu rfl (fun _ => rd_assign (ev_t rfl)) ?_
  refine sr_sub [(2, _, _)] (sub_cons rfl (sub_nil _)) ?_
  refine sr_nil (hK2 _ _ ?_)
  refine sc_ret (t_ret1 rfl rfl ?_)
  exact ⟨rfl, g⟩
theorem notlf_ok (c : Int) (w : World) : Ret PP fn_scan_scanner_next_1 #[.int .u8 c] w fun v w' => v = .bool (!decide (c = 10)) ∧ G w w' := by
  have g := G.refl w
  refine ret_of_sc (m := 5) func_scan_scanner_next_1 rfl rfl [(0, True, _)] (sub_cons rfl (sub_nil _)) ?_
  refine sc_seq fun K1 hK1 => ?_
  refine sc_text [3] ?_
  refine sr_pu rfl (fun _ => rd_assign ev_c) ?_
  refine sr_nil (hK1 _ _ ?_)
  refine sc_seq fun K2 hK2 => ?_
  refine sc_text [3, 3, 3] ?_
  refine sr_pu rfl (fun _ => rd_move (ev_t rfl)) ?_
  refine sr_pu rfl (fun _ => rd_ne (ev_t rfl) ev_c) ?_
  refine sr_pu rfl (fun _ => rd_assign (ev_t rfl)) ?_
  refine sr_sub [(2, _, _)] (sub_cons rfl (sub_nil _)) ?_
  refine sr_nil (hK2 _ _ ?_)
  refine sc_ret (t_ret1 rfl rfl ?_)
  exact ⟨rfl, g⟩
theorem alnum_ok (c : Int) (w : World) : Ret PP fn_scan_scanner_next_2 #[.int .u8 c] w fun v w' => v = .bool (letterB c || digitB c) ∧ G w w' := by
  have g := G.refl w
  refine ret_of_sc (m := 9) func_scan_scanner_next_2 rfl rfl [(0, True, _)] (sub_cons rfl (sub_nil _)) ?_
  refine sc_seq fun K1 hK1 => ?_
  refine sc_text [3] ?_
  refine sr_pu rfl (fun _ => rd_assign ev_c) ?_
  refine sr_nil (hK1 _ _ ?_)
  refine sc_seq fun K2 hK2 => ?_
  refine sc_text [3, 1, 3, 3, 1, 3, 3] ?_
  refine sr_pu rfl (fun _ => rd_move (ev_t rfl)) ?_
  refine sr_pure rfl (rc_call go_scan_letter ev_f (args_cons (ev_t rfl) (args_nil)) rfl) (letter_ok _ _) (fun w4 g4 => ?_)
  have g := g.trans (g4)
  refine sr_pu rfl (fun _ => rd_move (ev_t rfl)) ?_
  refine sr_pug rfl rfl rfl (fun _ => rd_move (ev_t rfl)) ?_
  refine sr_pureg rfl rfl rfl (fun _ => (rc_call go_scan_digit ev_f (args_cons (ev_u rfl id) (args_nil)) rfl)) (fun hc => digit_ok _ _) (fun w7 g7 => ?_)
  have g := g.trans (g7)
  refine sr_pu rfl (fun _ => rd_pick_or (ev_t rfl) (ev_u rfl id)) ?_
  refine sr_pu rfl (fun _ => rd_assign (ev_t rfl)) ?_
  refine sr_sub [(2, _, _)] (sub_cons rfl (sub_nil _)) ?_
  refine sr_nil (hK2 _ _ ?_)
  refine sc_ret (t_ret1 rfl rfl ?_)
  exact ⟨rfl, g⟩
def kws : List (List UInt8) := [[116, 121, 112, 101], [115, 116, 114, 117, 99, 116], [118, 97, 114], [102, 117, 110, 99], [105, 102], [101, 108, 115, 101], [102, 111, 114], [114, 101, 116, 117, 114, 110], [103, 111], [100, 101, 102, 101, 114], [115, 101, 108, 101, 99, 116], [99, 97, 115, 101], [100, 101, 102, 97, 117, 108, 116], [99, 104, 97, 110], [110, 101, 119], [109, 97, 107, 101], [108, 101, 110], [116, 114, 117, 101], [102, 97, 108, 115, 101], [110, 105, 108], [112, 114, 105, 110, 116], [99, 108, 111, 115, 101], [105, 110, 116], [98, 111, 111, 108], [109, 117, 116, 101, 120], [114, 119, 109, 117, 116, 101, 120], [103, 114, 111, 117, 112], [111, 110, 99, 101], [97, 116, 111, 109, 105, 99]]
def endw : List (List UInt8) := [[116, 114, 117, 101], [102, 97, 108, 115, 101], [110, 105, 108], [114, 101, 116, 117, 114, 110], [105, 110, 116], [98, 111, 111, 108], [109, 117, 116, 101, 120], [114, 119, 109, 117, 116, 101, 120], [103, 114, 111, 117, 112], [111, 110, 99, 101], [97, 116, 111, 109, 105, 99], [41], [93], [125]]
def inB (l : List (List UInt8)) (s : List UInt8) : Bool := l.any fun k => decide (s = k)
theorem keyword_ok (s : List UInt8) (w : World) : Ret PP fn_scan_Keyword #[Str s] w fun v w' => v = .bool (inB kws s) ∧ G w w' := by
  have g := G.refl w
  refine ret_of_sc (m := 34) func_scan_Keyword rfl rfl [(0, True, _)] (sub_cons rfl (sub_nil _)) ?_
  refine sc_seq fun K1 hK1 => ?_
  refine sc_text [3] ?_
  refine sr_pu rfl (fun _ => rd_assign ev_c) ?_
  refine sr_nil (hK1 _ _ ?_)
  refine sc_seq fun K2 hK2 => ?_
  refine sc_seq fun K3 hK3 => ?_
  refine sc_text [3] ?_
  refine sr_pu rfl (fun _ => rd_move (ev_t rfl)) ?_
  refine sr_sub [(2, _, _), (3, _, _)] (sub_cons rfl (sub_cons rfl (sub_nil _))) ?_
  refine sr_nil (hK3 _ _ ?_)
  refine sc_block ?_
  refine sc_seq fun K4 hK4 => ?_
  refine sc_seq fun K5 hK5 => ?_
  refine sc_text [3, 3] ?_
  refine sr_pu rfl (fun _ => rd_seq (ev_t rfl) ev_c) ?_
  refine sr_pu rfl (fun _ => rd_assign (ev_t rfl)) ?_
  refine sr_sub [(2, _, _), (3, _, _), (4, _, _)] (sub_cons rfl (sub_cons rfl (sub_cons rfl (sub_nil _)))) ?_
  refine sr_nil (hK5 _ _ ?_)
  refine' sc_or [(2, _, _)] (sub_cons rfl (sub_cons rfl (sub_nil _))) rfl (fun hb1 => ?y1) (hK4 _ _ ?n1)
  case y1 =>
   refine sc_seq fun K6 hK6 => ?_
   refine sc_text [3, 3] ?_
   refine sr_pu rfl (fun _ => rd_seq (ev_t rfl) ev_c) ?_
   refine sr_pu rfl (fun _ => rd_assign (ev_t rfl)) ?_
   refine sr_sub [(2, _, _), (3, _, _), (4, _, _)] (sub_cons rfl (sub_cons rfl (sub_cons rfl (sub_nil _)))) ?_
   refine sr_nil (hK6 _ _ ?_)
   refine' sc_or [(2, _, _)] (sub_cons rfl (sub_cons rfl (sub_nil _))) rfl (fun hb2 => ?y2) (fun a ha => ⟨ha, rfl⟩)
   case y2 =>
    refine sc_seq fun K7 hK7 => ?_
    refine sc_text [3, 3] ?_
    refine sr_pu rfl (fun _ => rd_seq (ev_t rfl) ev_c) ?_
    refine sr_pu rfl (fun _ => rd_assign (ev_t rfl)) ?_
    refine sr_sub [(2, _, _), (3, _, _), (4, _, _)] (sub_cons rfl (sub_cons rfl (sub_cons rfl (sub_nil _)))) ?_
    refine sr_nil (hK7 _ _ ?_)
    refine' sc_or [(2, _, _)] (sub_cons rfl (sub_cons rfl (sub_nil _))) rfl (fun hb3 => ?y3) (fun a ha => ⟨ha, rfl⟩)
    case y3 =>
     refine sc_seq fun K8 hK8 => ?_
     refine sc_text [3, 3] ?_
     refine sr_pu rfl (fun _ => rd_seq (ev_t rfl) ev_c) ?_
     refine sr_pu rfl (fun _ => rd_assign (ev_t rfl)) ?_
     refine sr_sub [(2, _, _), (3, _, _), (4, _, _)] (sub_cons rfl (sub_cons rfl (sub_cons rfl (sub_nil _)))) ?_
     refine sr_nil (hK8 _ _ ?_)
     refine' sc_or [(2, _, _)] (sub_cons rfl (sub_cons rfl (sub_nil _))) rfl (fun hb4 => ?y4) (fun a ha => ⟨ha, rfl⟩)
     case y4 =>
      refine sc_seq fun K9 hK9 => ?_
      refine sc_text [3, 3] ?_
      refine sr_pu rfl (fun _ => rd_seq (ev_t rfl) ev_c) ?_
      refine sr_pu rfl (fun _ => rd_assign (ev_t rfl)) ?_
      refine sr_sub [(2, _, _), (3, _, _), (4, _, _)] (sub_cons rfl (sub_cons rfl (sub_cons rfl (sub_nil _)))) ?_
      refine sr_nil (hK9 _ _ ?_)
      refine' sc_or [(2, _, _)] (sub_cons rfl (sub_cons rfl (sub_nil _))) rfl (fun hb5 => ?y5) (fun a ha => ⟨ha, rfl⟩)
      case y5 =>
       refine sc_seq fun K10 hK10 => ?_
       refine sc_text [3, 3] ?_
       refine sr_pu rfl (fun _ => rd_seq (ev_t rfl) ev_c) ?_
       refine sr_pu rfl (fun _ => rd_assign (ev_t rfl)) ?_
       refine sr_sub [(2, _, _), (3, _, _), (4, _, _)] (sub_cons rfl (sub_cons rfl (sub_cons rfl (sub_nil _)))) ?_
       refine sr_nil (hK10 _ _ ?_)
       refine' sc_or [(2, _, _)] (sub_cons rfl (sub_cons rfl (sub_nil _))) rfl (fun hb6 => ?y6) (fun a ha => ⟨ha, rfl⟩)
       case y6 =>
        refine sc_seq fun K11 hK11 => ?_
        refine sc_text [3, 3] ?_
        refine sr_pu rfl (fun _ => rd_seq (ev_t rfl) ev_c) ?_
        refine sr_pu rfl (fun _ => rd_assign (ev_t rfl)) ?_
        refine sr_sub [(2, _, _), (3, _, _), (4, _, _)] (sub_cons rfl (sub_cons rfl (sub_cons rfl (sub_nil _)))) ?_
        refine sr_nil (hK11 _ _ ?_)
        refine' sc_or [(2, _, _)] (sub_cons rfl (sub_cons rfl (sub_nil _))) rfl (fun hb7 => ?y7) (fun a ha => ⟨ha, rfl⟩)
        case y7 =>
         refine sc_seq fun K12 hK12 => ?_
         refine sc_text [3, 3] ?_
         refine sr_pu rfl (fun _ => rd_seq (ev_t rfl) ev_c) ?_
         refine sr_pu rfl (fun _ => rd_assign (ev_t rfl)) ?_
         refine sr_sub [(2, _, _), (3, _, _), (4, _, _)] (sub_cons rfl (sub_cons rfl (sub_cons rfl (sub_nil _)))) ?_
         refine sr_nil (hK12 _ _ ?_)
         refine' sc_or [(2, _, _)] (sub_cons rfl (sub_cons rfl (sub_nil _))) rfl (fun hb8 => ?y8) (fun a ha => ⟨ha, rfl⟩)
         case y8 =>
          refine sc_seq fun K13 hK13 => ?_
          refine sc_text [3, 3] ?_
          refine sr_pu rfl (fun _ => rd_seq (ev_t rfl) ev_c) ?_
          refine sr_pu rfl (fun _ => rd_assign (ev_t rfl)) ?_
          refine sr_sub [(2, _, _), (3, _, _), (4, _, _)] (sub_cons rfl (sub_cons rfl (sub_cons rfl (sub_nil _)))) ?_
          refine sr_nil (hK13 _ _ ?_)
          refine' sc_or [(2, _, _)] (sub_cons rfl (sub_cons rfl (sub_nil _))) rfl (fun hb9 => ?y9) (fun a ha => ⟨ha, rfl⟩)
          case y9 =>
           refine sc_seq fun K14 hK14 => ?_
           refine sc_text [3, 3] ?_
           refine sr_pu rfl (fun _ => rd_seq (ev_t rfl) ev_c) ?_
           refine sr_pu rfl (fun _ => rd_assign (ev_t rfl)) ?_
           refine sr_sub [(2, _, _), (3, _, _), (4, _, _)] (sub_cons rfl (sub_cons rfl (sub_cons rfl (sub_nil _)))) ?_
           refine sr_nil (hK14 _ _ ?_)
           refine' sc_or [(2, _, _)] (sub_cons rfl (sub_cons rfl (sub_nil _))) rfl (fun hb10 => ?y10) (fun a ha => ⟨ha, rfl⟩)
           case y10 =>
            refine sc_seq fun K15 hK15 => ?_
            refine sc_text [3, 3] ?_
            refine sr_pu rfl (fun _ => rd_seq (ev_t rfl) ev_c) ?_
            refine sr_pu rfl (fun _ => rd_assign (ev_t rfl)) ?_
            refine sr_sub [(2, _, _), (3, _, _), (4, _, _)] (sub_cons rfl (sub_cons rfl (sub_cons rfl (sub_nil _)))) ?_
            refine sr_nil (hK15 _ _ ?_)
            refine' sc_or [(2, _, _)] (sub_cons rfl (sub_cons rfl (sub_nil _))) rfl (fun hb11 => ?y11) (fun a ha => ⟨ha, rfl⟩)
            case y11 =>
             refine sc_seq fun K16 hK16 => ?_
             refine sc_text [3, 3] ?_
             refine sr_pu rfl (fun _ => rd_seq (ev_t rfl) ev_c) ?_
             refine sr_pu rfl (fun _ => rd_assign (ev_t rfl)) ?_
             refine sr_sub [(2, _, _), (3, _, _), (4, _, _)] (sub_cons rfl (sub_cons rfl (sub_cons rfl (sub_nil _)))) ?_
             refine sr_nil (hK16 _ _ ?_)
             refine' sc_or [(2, _, _)] (sub_cons rfl (sub_cons rfl (sub_nil _))) rfl (fun hb12 => ?y12) (fun a ha => ⟨ha, rfl⟩)
             case y12 =>
              refine sc_seq fun K17 hK17 => ?_
              refine sc_text [3, 3] ?_
              refine sr_pu rfl (fun _ => rd_seq (ev_t rfl) ev_c) ?_
              refine sr_pu rfl (fun _ => rd_assign (ev_t rfl)) ?_
              refine sr_sub [(2, _, _), (3, _, _), (4, _, _)] (sub_cons rfl (sub_cons rfl (sub_cons rfl (sub_nil _)))) ?_
              refine sr_nil (hK17 _ _ ?_)
              refine' sc_or [(2, _, _)] (sub_cons rfl (sub_cons rfl (sub_nil _))) rfl (fun hb13 => ?y13) (fun a ha => ⟨ha, rfl⟩)
              case y13 =>
               refine sc_seq fun K18 hK18 => ?_
               refine sc_text [3, 3] ?_
               refine sr_pu rfl (fun _ => rd_seq (ev_t rfl) ev_c) ?_
               refine sr_pu rfl (fun _ => rd_assign (ev_t rfl)) ?_
               refine sr_sub [(2, _, _), (3, _, _), (4, _, _)] (sub_cons rfl (sub_cons rfl (sub_cons rfl (sub_nil _)))) ?_
               refine sr_nil (hK18 _ _ ?_)
               refine' sc_or [(2, _, _)] (sub_cons rfl (sub_cons rfl (sub_nil _))) rfl (fun hb14 => ?y14) (fun a ha => ⟨ha, rfl⟩)
               case y14 =>
                refine sc_seq fun K19 hK19 => ?_
                refine sc_text [3, 3] ?_
                refine sr_pu rfl (fun _ => rd_seq (ev_t rfl) ev_c) ?_
                refine sr_pu rfl (fun _ => rd_assign (ev_t rfl)) ?_
                refine sr_sub [(2, _, _), (3, _, _), (4, _, _)] (sub_cons rfl (sub_cons rfl (sub_cons rfl (sub_nil _)))) ?_
                refine sr_nil (hK19 _ _ ?_)
                refine' sc_or [(2, _, _)] (sub_cons rfl (sub_cons rfl (sub_nil _))) rfl (fun hb15 => ?y15) (fun a ha => ⟨ha, rfl⟩)
                case y15 =>
                 refine sc_seq fun K20 hK20 => ?_
                 refine sc_text [3, 3] ?_
                 refine sr_pu rfl (fun _ => rd_seq (ev_t rfl) ev_c) ?_
                 refine sr_pu rfl (fun _ => rd_assign (ev_t rfl)) ?_
                 refine sr_sub [(2, _, _), (3, _, _), (4, _, _)] (sub_cons rfl (sub_cons rfl (sub_cons rfl (sub_nil _)))) ?_
                 refine sr_nil (hK20 _ _ ?_)
                 refine' sc_or [(2, _, _)] (sub_cons rfl (sub_cons rfl (sub_nil _))) rfl (fun hb16 => ?y16) (fun a ha => ⟨ha, rfl⟩)
                 case y16 =>
                  refine sc_seq fun K21 hK21 => ?_
                  refine sc_text [3, 3] ?_
                  refine sr_pu rfl (fun _ => rd_seq (ev_t rfl) ev_c) ?_
                  refine sr_pu rfl (fun _ => rd_assign (ev_t rfl)) ?_
                  refine sr_sub [(2, _, _), (3, _, _), (4, _, _)] (sub_cons rfl (sub_cons rfl (sub_cons rfl (sub_nil _)))) ?_
                  refine sr_nil (hK21 _ _ ?_)
                  refine' sc_or [(2, _, _)] (sub_cons rfl (sub_cons rfl (sub_nil _))) rfl (fun hb17 => ?y17) (fun a ha => ⟨ha, rfl⟩)
                  case y17 =>
                   refine sc_seq fun K22 hK22 => ?_
                   refine sc_text [3, 3] ?_
                   refine sr_pu rfl (fun _ => rd_seq (ev_t rfl) ev_c) ?_
                   refine sr_pu rfl (fun _ => rd_assign (ev_t rfl)) ?_
                   refine sr_sub [(2, _, _), (3, _, _), (4, _, _)] (sub_cons rfl (sub_cons rfl (sub_cons rfl (sub_nil _)))) ?_
                   refine sr_nil (hK22 _ _ ?_)
                   refine' sc_or [(2, _, _)] (sub_cons rfl (sub_cons rfl (sub_nil _))) rfl (fun hb18 => ?y18) (fun a ha => ⟨ha, rfl⟩)
                   case y18 =>
                    refine sc_seq fun K23 hK23 => ?_
                    refine sc_text [3, 3] ?_
                    refine sr_pu rfl (fun _ => rd_seq (ev_t rfl) ev_c) ?_
                    refine sr_pu rfl (fun _ => rd_assign (ev_t rfl)) ?_
                    refine sr_sub [(2, _, _), (3, _, _), (4, _, _)] (sub_cons rfl (sub_cons rfl (sub_cons rfl (sub_nil _)))) ?_
                    refine sr_nil (hK23 _ _ ?_)
                    refine' sc_or [(2, _, _)] (sub_cons rfl (sub_cons rfl (sub_nil _))) rfl (fun hb19 => ?y19) (fun a ha => ⟨ha, rfl⟩)
                    case y19 =>
                     refine sc_seq fun K24 hK24 => ?_
                     refine sc_text [3, 3] ?_
                     refine sr_pu rfl (fun _ => rd_seq (ev_t rfl) ev_c) ?_
                     refine sr_pu rfl (fun _ => rd_assign (ev_t rfl)) ?_
                     refine sr_sub [(2, _, _), (3, _, _), (4, _, _)] (sub_cons rfl (sub_cons rfl (sub_cons rfl (sub_nil _)))) ?_
                     refine sr_nil (hK24 _ _ ?_)
                     refine' sc_or [(2, _, _)] (sub_cons rfl (sub_cons rfl (sub_nil _))) rfl (fun hb20 => ?y20) (fun a ha => ⟨ha, rfl⟩)
                     case y20 =>
                      refine sc_seq fun K25 hK25 => ?_
                      refine sc_text [3, 3] ?_
                      refine sr_pu rfl (fun _ => rd_seq (ev_t rfl) ev_c) ?_
                      refine sr_pu rfl (fun _ => rd_assign (ev_t rfl)) ?_
                      refine sr_sub [(2, _, _), (3, _, _), (4, _, _)] (sub_cons rfl (sub_cons rfl (sub_cons rfl (sub_nil _)))) ?_
                      refine sr_nil (hK25 _ _ ?_)
                      refine' sc_or [(2, _, _)] (sub_cons rfl (sub_cons rfl (sub_nil _))) rfl (fun hb21 => ?y21) (fun a ha => ⟨ha, rfl⟩)
                      case y21 =>
                       refine sc_seq fun K26 hK26 => ?_
                       refine sc_text [3, 3] ?_
                       refine sr_pu rfl (fun _ => rd_seq (ev_t rfl) ev_c) ?_
                       refine sr_pu rfl (fun _ => rd_assign (ev_t rfl)) ?_
                       refine sr_sub [(2, _, _), (3, _, _), (4, _, _)] (sub_cons rfl (sub_cons rfl (sub_cons rfl (sub_nil _)))) ?_
                       refine sr_nil (hK26 _ _ ?_)
                       refine' sc_or [(2, _, _)] (sub_cons rfl (sub_cons rfl (sub_nil _))) rfl (fun hb22 => ?y22) (fun a ha => ⟨ha, rfl⟩)
                       case y22 =>
                        refine sc_seq fun K27 hK27 => ?_
                        refine sc_text [3, 3] ?_
                        refine sr_pu rfl (fun _ => rd_seq (ev_t rfl) ev_c) ?_
                        refine sr_pu rfl (fun _ => rd_assign (ev_t rfl)) ?_
                        refine sr_sub [(2, _, _), (3, _, _), (4, _, _)] (sub_cons rfl (sub_cons rfl (sub_cons rfl (sub_nil _)))) ?_
                        refine sr_nil (hK27 _ _ ?_)
                        refine' sc_or [(2, _, _)] (sub_cons rfl (sub_cons rfl (sub_nil _))) rfl (fun hb23 => ?y23) (fun a ha => ⟨ha, rfl⟩)
                        case y23 =>
                         refine sc_seq fun K28 hK28 => ?_
                         refine sc_text [3, 3] ?_
                         refine sr_pu rfl (fun _ => rd_seq (ev_t rfl) ev_c) ?_
                         refine sr_pu rfl (fun _ => rd_assign (ev_t rfl)) ?_
                         refine sr_sub [(2, _, _), (3, _, _), (4, _, _)] (sub_cons rfl (sub_cons rfl (sub_cons rfl (sub_nil _)))) ?_
                         refine sr_nil (hK28 _ _ ?_)
                         refine' sc_or [(2, _, _)] (sub_cons rfl (sub_cons rfl (sub_nil _))) rfl (fun hb24 => ?y24) (fun a ha => ⟨ha, rfl⟩)
                         case y24 =>
                          refine sc_seq fun K29 hK29 => ?_
                          refine sc_text [3, 3] ?_
                          refine sr_pu rfl (fun _ => rd_seq (ev_t rfl) ev_c) ?_
                          refine sr_pu rfl (fun _ => rd_assign (ev_t rfl)) ?_
                          refine sr_sub [(2, _, _), (3, _, _), (4, _, _)] (sub_cons rfl (sub_cons rfl (sub_cons rfl (sub_nil _)))) ?_
                          refine sr_nil (hK29 _ _ ?_)
                          refine' sc_or [(2, _, _)] (sub_cons rfl (sub_cons rfl (sub_nil _))) rfl (fun hb25 => ?y25) (fun a ha => ⟨ha, rfl⟩)
                          case y25 =>
                           refine sc_seq fun K30 hK30 => ?_
                           refine sc_text [3, 3] ?_
                           refine sr_pu rfl (fun _ => rd_seq (ev_t rfl) ev_c) ?_
                           refine sr_pu rfl (fun _ => rd_assign (ev_t rfl)) ?_
                           refine sr_sub [(2, _, _), (3, _, _), (4, _, _)] (sub_cons rfl (sub_cons rfl (sub_cons rfl (sub_nil _)))) ?_
                           refine sr_nil (hK30 _ _ ?_)
                           refine' sc_or [(2, _, _)] (sub_cons rfl (sub_cons rfl (sub_nil _))) rfl (fun hb26 => ?y26) (fun a ha => ⟨ha, rfl⟩)
                           case y26 =>
                            refine sc_seq fun K31 hK31 => ?_
                            refine sc_text [3, 3] ?_
                            refine sr_pu rfl (fun _ => rd_seq (ev_t rfl) ev_c) ?_
                            refine sr_pu rfl (fun _ => rd_assign (ev_t rfl)) ?_
                            refine sr_sub [(2, _, _), (3, _, _), (4, _, _)] (sub_cons rfl (sub_cons rfl (sub_cons rfl (sub_nil _)))) ?_
                            refine sr_nil (hK31 _ _ ?_)
                            refine' sc_or [(2, _, _)] (sub_cons rfl (sub_cons rfl (sub_nil _))) rfl (fun hb27 => ?y27) (fun a ha => ⟨ha, rfl⟩)
                            case y27 =>
                             refine sc_seq fun K32 hK32 => ?_
                             refine sc_text [3, 3] ?_
                             refine sr_pu rfl (fun _ => rd_seq (ev_t rfl) ev_c) ?_
                             refine sr_pu rfl (fun _ => rd_assign (ev_t rfl)) ?_
                             refine sr_sub [(2, _, _), (3, _, _), (4, _, _)] (sub_cons rfl (sub_cons rfl (sub_cons rfl (sub_nil _)))) ?_
                             refine sr_nil (hK32 _ _ ?_)
                             refine' sc_or [(2, _, _)] (sub_cons rfl (sub_cons rfl (sub_nil _))) rfl (fun hb28 => ?y28) (fun a ha => ⟨ha, rfl⟩)
                             case y28 =>
                              refine sc_text [3, 3] ?_
                              refine sr_pu rfl (fun _ => rd_seq (ev_t rfl) ev_c) ?_
                              refine sr_pu rfl (fun _ => rd_assign (ev_t rfl)) ?_
                              refine sr_sub [(4, _, _), (2, _, _)] (sub_cons rfl (sub_cons rfl (sub_nil _))) ?_
                              exact sr_nil (fun a ha => ⟨ha, rfl⟩)
  case n1 =>
   refine sc_cond (ev_t rfl) (fun h29 => ?_) (fun h29 => ?_)
   · (try simp only [bsimp] at h29)
     refine sc_seq fun K33 hK33 => ?_
     refine sc_text [3] ?_
     refine sr_pu rfl (fun _ => rd_assign ev_c) ?_
     refine sr_sub [(2, _, _)] (sub_cons rfl (sub_nil _)) ?_
     refine sr_nil (hK33 _ _ ?_)
     refine sc_ret (t_ret1 rfl rfl ?_)
     refine ⟨?_, g⟩; simp only [inB, kws, List.any_cons, List.any_nil, Bool.or_false]; rw [h29]
   (try simp only [bsimp] at h29)
   refine sc_skip (hK2 _ _ ?_)
   refine sc_sub [(2, _, _)] (sub_cons rfl (sub_nil _)) ?_
   refine sc_seq fun K34 hK34 => ?_
   refine sc_text [3] ?_
   refine sr_pu rfl (fun _ => rd_assign ev_c) ?_
   refine sr_nil (hK34 _ _ ?_)
   refine sc_ret (t_ret1 rfl rfl ?_)
   refine ⟨?_, g⟩; simp only [inB, kws, List.any_cons, List.any_nil, Bool.or_false]; rw [h29]
theorem ending_ok (s : List UInt8) (w : World) : Ret PP fn_scan_ending #[Str s] w fun v w' => v = .bool (inB endw s) ∧ G w w' := by
  have g := G.refl w
  refine ret_of_sc (m := 19) func_scan_ending rfl rfl [(0, True, _)] (sub_cons rfl (sub_nil _)) ?_
  refine sc_seq fun K1 hK1 => ?_
  refine sc_text [3] ?_
  refine sr_pu rfl (fun _ => rd_assign ev_c) ?_
  refine sr_nil (hK1 _ _ ?_)
  refine sc_seq fun K2 hK2 => ?_
  refine sc_seq fun K3 hK3 => ?_
  refine sc_text [3] ?_
  refine sr_pu rfl (fun _ => rd_move (ev_t rfl)) ?_
  refine sr_sub [(2, _, _), (3, _, _)] (sub_cons rfl (sub_cons rfl (sub_nil _))) ?_
  refine sr_nil (hK3 _ _ ?_)
  refine sc_block ?_
  refine sc_seq fun K4 hK4 => ?_
  refine sc_seq fun K5 hK5 => ?_
  refine sc_text [3, 3] ?_
  refine sr_pu rfl (fun _ => rd_seq (ev_t rfl) ev_c) ?_
  refine sr_pu rfl (fun _ => rd_assign (ev_t rfl)) ?_
  refine sr_sub [(2, _, _), (3, _, _), (4, _, _)] (sub_cons rfl (sub_cons rfl (sub_cons rfl (sub_nil _)))) ?_
  refine sr_nil (hK5 _ _ ?_)
  refine' sc_or [(2, _, _)] (sub_cons rfl (sub_cons rfl (sub_nil _))) rfl (fun hb1 => ?y1) (hK4 _ _ ?n1)
  case y1 =>
   refine sc_seq fun K6 hK6 => ?_
   refine sc_text [3, 3] ?_
   refine sr_pu rfl (fun _ => rd_seq (ev_t rfl) ev_c) ?_
   refine sr_pu rfl (fun _ => rd_assign (ev_t rfl)) ?_
   refine sr_sub [(2, _, _), (3, _, _), (4, _, _)] (sub_cons rfl (sub_cons rfl (sub_cons rfl (sub_nil _)))) ?_
   refine sr_nil (hK6 _ _ ?_)
   refine' sc_or [(2, _, _)] (sub_cons rfl (sub_cons rfl (sub_nil _))) rfl (fun hb2 => ?y2) (fun a ha => ⟨ha, rfl⟩)
   case y2 =>
    refine sc_seq fun K7 hK7 => ?_
    refine sc_text [3, 3] ?_
    refine sr_pu rfl (fun _ => rd_seq (ev_t rfl) ev_c) ?_
    refine sr_pu rfl (fun _ => rd_assign (ev_t rfl)) ?_
    refine sr_sub [(2, _, _), (3, _, _), (4, _, _)] (sub_cons rfl (sub_cons rfl (sub_cons rfl (sub_nil _)))) ?_
    refine sr_nil (hK7 _ _ ?_)
    refine' sc_or [(2, _, _)] (sub_cons rfl (sub_cons rfl (sub_nil _))) rfl (fun hb3 => ?y3) (fun a ha => ⟨ha, rfl⟩)
    case y3 =>
     refine sc_seq fun K8 hK8 => ?_
     refine sc_text [3, 3] ?_
     refine sr_pu rfl (fun _ => rd_seq (ev_t rfl) ev_c) ?_
     refine sr_pu rfl (fun _ => rd_assign (ev_t rfl)) ?_
     refine sr_sub [(2, _, _), (3, _, _), (4, _, _)] (sub_cons rfl (sub_cons rfl (sub_cons rfl (sub_nil _)))) ?_
     refine sr_nil (hK8 _ _ ?_)
     refine' sc_or [(2, _, _)] (sub_cons rfl (sub_cons rfl (sub_nil _))) rfl (fun hb4 => ?y4) (fun a ha => ⟨ha, rfl⟩)
     case y4 =>
      refine sc_seq fun K9 hK9 => ?_
      refine sc_text [3, 3] ?_
      refine sr_pu rfl (fun _ => rd_seq (ev_t rfl) ev_c) ?_
      refine sr_pu rfl (fun _ => rd_assign (ev_t rfl)) ?_
      refine sr_sub [(2, _, _), (3, _, _), (4, _, _)] (sub_cons rfl (sub_cons rfl (sub_cons rfl (sub_nil _)))) ?_
      refine sr_nil (hK9 _ _ ?_)
      refine' sc_or [(2, _, _)] (sub_cons rfl (sub_cons rfl (sub_nil _))) rfl (fun hb5 => ?y5) (fun a ha => ⟨ha, rfl⟩)
      case y5 =>
       refine sc_seq fun K10 hK10 => ?_
       refine sc_text [3, 3] ?_
       refine sr_pu rfl (fun _ => rd_seq (ev_t rfl) ev_c) ?_
       refine sr_pu rfl (fun _ => rd_assign (ev_t rfl)) ?_
       refine sr_sub [(2, _, _), (3, _, _), (4, _, _)] (sub_cons rfl (sub_cons rfl (sub_cons rfl (sub_nil _)))) ?_
       refine sr_nil (hK10 _ _ ?_)
       refine' sc_or [(2, _, _)] (sub_cons rfl (sub_cons rfl (sub_nil _))) rfl (fun hb6 => ?y6) (fun a ha => ⟨ha, rfl⟩)
       case y6 =>
        refine sc_seq fun K11 hK11 => ?_
        refine sc_text [3, 3] ?_
        refine sr_pu rfl (fun _ => rd_seq (ev_t rfl) ev_c) ?_
        refine sr_pu rfl (fun _ => rd_assign (ev_t rfl)) ?_
        refine sr_sub [(2, _, _), (3, _, _), (4, _, _)] (sub_cons rfl (sub_cons rfl (sub_cons rfl (sub_nil _)))) ?_
        refine sr_nil (hK11 _ _ ?_)
        refine' sc_or [(2, _, _)] (sub_cons rfl (sub_cons rfl (sub_nil _))) rfl (fun hb7 => ?y7) (fun a ha => ⟨ha, rfl⟩)
        case y7 =>
         refine sc_seq fun K12 hK12 => ?_
         refine sc_text [3, 3] ?_
         refine sr_pu rfl (fun _ => rd_seq (ev_t rfl) ev_c) ?_
         refine sr_pu rfl (fun _ => rd_assign (ev_t rfl)) ?_
         refine sr_sub [(2, _, _), (3, _, _), (4, _, _)] (sub_cons rfl (sub_cons rfl (sub_cons rfl (sub_nil _)))) ?_
         refine sr_nil (hK12 _ _ ?_)
         refine' sc_or [(2, _, _)] (sub_cons rfl (sub_cons rfl (sub_nil _))) rfl (fun hb8 => ?y8) (fun a ha => ⟨ha, rfl⟩)
         case y8 =>
          refine sc_seq fun K13 hK13 => ?_
          refine sc_text [3, 3] ?_
          refine sr_pu rfl (fun _ => rd_seq (ev_t rfl) ev_c) ?_
          refine sr_pu rfl (fun _ => rd_assign (ev_t rfl)) ?_
          refine sr_sub [(2, _, _), (3, _, _), (4, _, _)] (sub_cons rfl (sub_cons rfl (sub_cons rfl (sub_nil _)))) ?_
          refine sr_nil (hK13 _ _ ?_)
          refine' sc_or [(2, _, _)] (sub_cons rfl (sub_cons rfl (sub_nil _))) rfl (fun hb9 => ?y9) (fun a ha => ⟨ha, rfl⟩)
          case y9 =>
           refine sc_seq fun K14 hK14 => ?_
           refine sc_text [3, 3] ?_
           refine sr_pu rfl (fun _ => rd_seq (ev_t rfl) ev_c) ?_
           refine sr_pu rfl (fun _ => rd_assign (ev_t rfl)) ?_
           refine sr_sub [(2, _, _), (3, _, _), (4, _, _)] (sub_cons rfl (sub_cons rfl (sub_cons rfl (sub_nil _)))) ?_
           refine sr_nil (hK14 _ _ ?_)
           refine' sc_or [(2, _, _)] (sub_cons rfl (sub_cons rfl (sub_nil _))) rfl (fun hb10 => ?y10) (fun a ha => ⟨ha, rfl⟩)
           case y10 =>
            refine sc_seq fun K15 hK15 => ?_
            refine sc_text [3, 3] ?_
            refine sr_pu rfl (fun _ => rd_seq (ev_t rfl) ev_c) ?_
            refine sr_pu rfl (fun _ => rd_assign (ev_t rfl)) ?_
            refine sr_sub [(2, _, _), (3, _, _), (4, _, _)] (sub_cons rfl (sub_cons rfl (sub_cons rfl (sub_nil _)))) ?_
            refine sr_nil (hK15 _ _ ?_)
            refine' sc_or [(2, _, _)] (sub_cons rfl (sub_cons rfl (sub_nil _))) rfl (fun hb11 => ?y11) (fun a ha => ⟨ha, rfl⟩)
            case y11 =>
             refine sc_seq fun K16 hK16 => ?_
             refine sc_text [3, 3] ?_
             refine sr_pu rfl (fun _ => rd_seq (ev_t rfl) ev_c) ?_
             refine sr_pu rfl (fun _ => rd_assign (ev_t rfl)) ?_
             refine sr_sub [(2, _, _), (3, _, _), (4, _, _)] (sub_cons rfl (sub_cons rfl (sub_cons rfl (sub_nil _)))) ?_
             refine sr_nil (hK16 _ _ ?_)
             refine' sc_or [(2, _, _)] (sub_cons rfl (sub_cons rfl (sub_nil _))) rfl (fun hb12 => ?y12) (fun a ha => ⟨ha, rfl⟩)
             case y12 =>
              refine sc_seq fun K17 hK17 => ?_
              refine sc_text [3, 3] ?_
              refine sr_pu rfl (fun _ => rd_seq (ev_t rfl) ev_c) ?_
              refine sr_pu rfl (fun _ => rd_assign (ev_t rfl)) ?_
              refine sr_sub [(2, _, _), (3, _, _), (4, _, _)] (sub_cons rfl (sub_cons rfl (sub_cons rfl (sub_nil _)))) ?_
              refine sr_nil (hK17 _ _ ?_)
              refine' sc_or [(2, _, _)] (sub_cons rfl (sub_cons rfl (sub_nil _))) rfl (fun hb13 => ?y13) (fun a ha => ⟨ha, rfl⟩)
              case y13 =>
               refine sc_text [3, 3] ?_
               refine sr_pu rfl (fun _ => rd_seq (ev_t rfl) ev_c) ?_
               refine sr_pu rfl (fun _ => rd_assign (ev_t rfl)) ?_
               refine sr_sub [(4, _, _), (2, _, _)] (sub_cons rfl (sub_cons rfl (sub_nil _))) ?_
               exact sr_nil (fun a ha => ⟨ha, rfl⟩)
  case n1 =>
   refine sc_cond (ev_t rfl) (fun h14 => ?_) (fun h14 => ?_)
   · (try simp only [bsimp] at h14)
     refine sc_seq fun K18 hK18 => ?_
     refine sc_text [3] ?_
     refine sr_pu rfl (fun _ => rd_assign ev_c) ?_
     refine sr_sub [(2, _, _)] (sub_cons rfl (sub_nil _)) ?_
     refine sr_nil (hK18 _ _ ?_)
     refine sc_ret (t_ret1 rfl rfl ?_)
     refine ⟨?_, g⟩; simp only [inB, endw, List.any_cons, List.any_nil, Bool.or_false]; rw [h14]
   (try simp only [bsimp] at h14)
   refine sc_skip (hK2 _ _ ?_)
   refine sc_sub [(2, _, _)] (sub_cons rfl (sub_nil _)) ?_
   refine sc_seq fun K19 hK19 => ?_
   refine sc_text [3] ?_
   refine sr_pu rfl (fun _ => rd_assign ev_c) ?_
   refine sr_nil (hK19 _ _ ?_)
   refine sc_ret (t_ret1 rfl rfl ?_)
   refine ⟨?_, g⟩; simp only [inB, endw, List.any_cons, List.any_nil, Bool.or_false]; rw [h14]
theorem rkeyword_ok (s : List UInt8) (w : World) : Ret PP fn_r02_Keyword #[Str s] w fun v w' => v = .bool (inB kws s) ∧ G w w' := by
  have g := G.refl w
  refine ret_of_sc (m := 34) func_r02_Keyword rfl rfl [(0, True, _)] (sub_cons rfl (sub_nil _)) ?_
  refine sc_seq fun K1 hK1 => ?_
  refine sc_text [3] ?_
  refine sr_pu rfl (fun _ => rd_assign ev_c) ?_
  refine sr_nil (hK1 _ _ ?_)
  refine sc_seq fun K2 hK2 => ?_
  refine sc_seq fun K3 hK3 => ?_
  refine sc_text [3] ?_
  refine sr_pu rfl (fun _ => rd_move (ev_t rfl)) ?_
  refine sr_sub [(2, _, _), (3, _, _)] (sub_cons rfl (sub_cons rfl (sub_nil _))) ?_
  refine sr_nil (hK3 _ _ ?_)
  refine sc_block ?_
  refine sc_seq fun K4 hK4 => ?_
  refine sc_seq fun K5 hK5 => ?_
  refine sc_text [3, 3] ?_
  refine sr_pu rfl (fun _ => rd_seq (ev_t rfl) ev_c) ?_
  refine sr_pu rfl (fun _ => rd_assign (ev_t rfl)) ?_
  refine sr_sub [(2, _, _), (3, _, _), (4, _, _)] (sub_cons rfl (sub_cons rfl (sub_cons rfl (sub_nil _)))) ?_
  refine sr_nil (hK5 _ _ ?_)
  refine' sc_or [(2, _, _)] (sub_cons rfl (sub_cons rfl (sub_nil _))) rfl (fun hb1 => ?y1) (hK4 _ _ ?n1)
  case y1 =>
   refine sc_seq fun K6 hK6 => ?_
   refine sc_text [3, 3] ?_
   refine sr_pu rfl (fun _ => rd_seq (ev_t rfl) ev_c) ?_
   refine sr_pu rfl (fun _ => rd_assign (ev_t rfl)) ?_
   refine sr_sub [(2, _, _), (3, _, _), (4, _, _)] (sub_cons rfl (sub_cons rfl (sub_cons rfl (sub_nil _)))) ?_
   refine sr_nil (hK6 _ _ ?_)
   refine' sc_or [(2, _, _)] (sub_cons rfl (sub_cons rfl (sub_nil _))) rfl (fun hb2 => ?y2) (fun a ha => ⟨ha, rfl⟩)
   case y2 =>
    refine sc_seq fun K7 hK7 => ?_
    refine sc_text [3, 3] ?_
    refine sr_pu rfl (fun _ => rd_seq (ev_t rfl) ev_c) ?_
    refine sr_pu rfl (fun _ => rd_assign (ev_t rfl)) ?_
    refine sr_sub [(2, _, _), (3, _, _), (4, _, _)] (sub_cons rfl (sub_cons rfl (sub_cons rfl (sub_nil _)))) ?_
    refine sr_nil (hK7 _ _ ?_)
    refine' sc_or [(2, _, _)] (sub_cons rfl (sub_cons rfl (sub_nil _))) rfl (fun hb3 => ?y3) (fun a ha => ⟨ha, rfl⟩)
    case y3 =>
     refine sc_seq fun K8 hK8 => ?_
     refine sc_text [3, 3] ?_
     refine sr_pu rfl (fun _ => rd_seq (ev_t rfl) ev_c) ?_
     refine sr_pu rfl (fun _ => rd_assign (ev_t rfl)) ?_
     refine sr_sub [(2, _, _), (3, _, _), (4, _, _)] (sub_cons rfl (sub_cons rfl (sub_cons rfl (sub_nil _)))) ?_
     refine sr_nil (hK8 _ _ ?_)
     refine' sc_or [(2, _, _)] (sub_cons rfl (sub_cons rfl (sub_nil _))) rfl (fun hb4 => ?y4) (fun a ha => ⟨ha, rfl⟩)
     case y4 =>
      refine sc_seq fun K9 hK9 => ?_
      refine sc_text [3, 3] ?_
      refine sr_pu rfl (fun _ => rd_seq (ev_t rfl) ev_c) ?_
      refine sr_pu rfl (fun _ => rd_assign (ev_t rfl)) ?_
      refine sr_sub [(2, _, _), (3, _, _), (4, _, _)] (sub_cons rfl (sub_cons rfl (sub_cons rfl (sub_nil _)))) ?_
      refine sr_nil (hK9 _ _ ?_)
      refine' sc_or [(2, _, _)] (sub_cons rfl (sub_cons rfl (sub_nil _))) rfl (fun hb5 => ?y5) (fun a ha => ⟨ha, rfl⟩)
      case y5 =>
       refine sc_seq fun K10 hK10 => ?_
       refine sc_text [3, 3] ?_
       refine sr_pu rfl (fun _ => rd_seq (ev_t rfl) ev_c) ?_
       refine sr_pu rfl (fun _ => rd_assign (ev_t rfl)) ?_
       refine sr_sub [(2, _, _), (3, _, _), (4, _, _)] (sub_cons rfl (sub_cons rfl (sub_cons rfl (sub_nil _)))) ?_
       refine sr_nil (hK10 _ _ ?_)
       refine' sc_or [(2, _, _)] (sub_cons rfl (sub_cons rfl (sub_nil _))) rfl (fun hb6 => ?y6) (fun a ha => ⟨ha, rfl⟩)
       case y6 =>
        refine sc_seq fun K11 hK11 => ?_
        refine sc_text [3, 3] ?_
        refine sr_pu rfl (fun _ => rd_seq (ev_t rfl) ev_c) ?_
        refine sr_pu rfl (fun _ => rd_assign (ev_t rfl)) ?_
        refine sr_sub [(2, _, _), (3, _, _), (4, _, _)] (sub_cons rfl (sub_cons rfl (sub_cons rfl (sub_nil _)))) ?_
        refine sr_nil (hK11 _ _ ?_)
        refine' sc_or [(2, _, _)] (sub_cons rfl (sub_cons rfl (sub_nil _))) rfl (fun hb7 => ?y7) (fun a ha => ⟨ha, rfl⟩)
        case y7 =>
         refine sc_seq fun K12 hK12 => ?_
         refine sc_text [3, 3] ?_
         refine sr_pu rfl (fun _ => rd_seq (ev_t rfl) ev_c) ?_
         refine sr_pu rfl (fun _ => rd_assign (ev_t rfl)) ?_
         refine sr_sub [(2, _, _), (3, _, _), (4, _, _)] (sub_cons rfl (sub_cons rfl (sub_cons rfl (sub_nil _)))) ?_
         refine sr_nil (hK12 _ _ ?_)
         refine' sc_or [(2, _, _)] (sub_cons rfl (sub_cons rfl (sub_nil _))) rfl (fun hb8 => ?y8) (fun a ha => ⟨ha, rfl⟩)
         case y8 =>
          refine sc_seq fun K13 hK13 => ?_
          refine sc_text [3, 3] ?_
          refine sr_pu rfl (fun _ => rd_seq (ev_t rfl) ev_c) ?_
          refine sr_pu rfl (fun _ => rd_assign (ev_t rfl)) ?_
          refine sr_sub [(2, _, _), (3, _, _), (4, _, _)] (sub_cons rfl (sub_cons rfl (sub_cons rfl (sub_nil _)))) ?_
          refine sr_nil (hK13 _ _ ?_)
          refine' sc_or [(2, _, _)] (sub_cons rfl (sub_cons rfl (sub_nil _))) rfl (fun hb9 => ?y9) (fun a ha => ⟨ha, rfl⟩)
          case y9 =>
           refine sc_seq fun K14 hK14 => ?_
           refine sc_text [3, 3] ?_
           refine sr_pu rfl (fun _ => rd_seq (ev_t rfl) ev_c) ?_
           refine sr_pu rfl (fun _ => rd_assign (ev_t rfl)) ?_
           refine sr_sub [(2, _, _), (3, _, _), (4, _, _)] (sub_cons rfl (sub_cons rfl (sub_cons rfl (sub_nil _)))) ?_
           refine sr_nil (hK14 _ _ ?_)
           refine' sc_or [(2, _, _)] (sub_cons rfl (sub_cons rfl (sub_nil _))) rfl (fun hb10 => ?y10) (fun a ha => ⟨ha, rfl⟩)
           case y10 =>
            refine sc_seq fun K15 hK15 => ?_
            refine sc_text [3, 3] ?_
            refine sr_pu rfl (fun _ => rd_seq (ev_t rfl) ev_c) ?_
            refine sr_pu rfl (fun _ => rd_assign (ev_t rfl)) ?_
            refine sr_sub [(2, _, _), (3, _, _), (4, _, _)] (sub_cons rfl (sub_cons rfl (sub_cons rfl (sub_nil _)))) ?_
            refine sr_nil (hK15 _ _ ?_)
            refine' sc_or [(2, _, _)] (sub_cons rfl (sub_cons rfl (sub_nil _))) rfl (fun hb11 => ?y11) (fun a ha => ⟨ha, rfl⟩)
            case y11 =>
             refine sc_seq fun K16 hK16 => ?_
             refine sc_text [3, 3] ?_
             refine sr_pu rfl (fun _ => rd_seq (ev_t rfl) ev_c) ?_
             refine sr_pu rfl (fun _ => rd_assign (ev_t rfl)) ?_
             refine sr_sub [(2, _, _), (3, _, _), (4, _, _)] (sub_cons rfl (sub_cons rfl (sub_cons rfl (sub_nil _)))) ?_
             refine sr_nil (hK16 _ _ ?_)
             refine' sc_or [(2, _, _)] (sub_cons rfl (sub_cons rfl (sub_nil _))) rfl (fun hb12 => ?y12) (fun a ha => ⟨ha, rfl⟩)
             case y12 =>
              refine sc_seq fun K17 hK17 => ?_
              refine sc_text [3, 3] ?_
              refine sr_pu rfl (fun _ => rd_seq (ev_t rfl) ev_c) ?_
              refine sr_pu rfl (fun _ => rd_assign (ev_t rfl)) ?_
              refine sr_sub [(2, _, _), (3, _, _), (4, _, _)] (sub_cons rfl (sub_cons rfl (sub_cons rfl (sub_nil _)))) ?_
              refine sr_nil (hK17 _ _ ?_)
              refine' sc_or [(2, _, _)] (sub_cons rfl (sub_cons rfl (sub_nil _))) rfl (fun hb13 => ?y13) (fun a ha => ⟨ha, rfl⟩)
              case y13 =>
               refine sc_seq fun K18 hK18 => ?_
               refine sc_text [3, 3] ?_
               refine sr_pu rfl (fun _ => rd_seq (ev_t rfl) ev_c) ?_
               refine sr_pu rfl (fun _ => rd_assign (ev_t rfl)) ?_
               refine sr_sub [(2, _, _), (3, _, _), (4, _, _)] (sub_cons rfl (sub_cons rfl (sub_cons rfl (sub_nil _)))) ?_
               refine sr_nil (hK18 _ _ ?_)
               refine' sc_or [(2, _, _)] (sub_cons rfl (sub_cons rfl (sub_nil _))) rfl (fun hb14 => ?y14) (fun a ha => ⟨ha, rfl⟩)
               case y14 =>
                refine sc_seq fun K19 hK19 => ?_
                refine sc_text [3, 3] ?_
                refine sr_pu rfl (fun _ => rd_seq (ev_t rfl) ev_c) ?_
                refine sr_pu rfl (fun _ => rd_assign (ev_t rfl)) ?_
                refine sr_sub [(2, _, _), (3, _, _), (4, _, _)] (sub_cons rfl (sub_cons rfl (sub_cons rfl (sub_nil _)))) ?_
                refine sr_nil (hK19 _ _ ?_)
                refine' sc_or [(2, _, _)] (sub_cons rfl (sub_cons rfl (sub_nil _))) rfl (fun hb15 => ?y15) (fun a ha => ⟨ha, rfl⟩)
                case y15 =>
                 refine sc_seq fun K20 hK20 => ?_
                 refine sc_text [3, 3] ?_
                 refine sr_pu rfl (fun _ => rd_seq (ev_t rfl) ev_c) ?_
                 refine sr_pu rfl (fun _ => rd_assign (ev_t rfl)) ?_
                 refine sr_sub [(2, _, _), (3, _, _), (4, _, _)] (sub_cons rfl (sub_cons rfl (sub_cons rfl (sub_nil _)))) ?_
                 refine sr_nil (hK20 _ _ ?_)
                 refine' sc_or [(2, _, _)] (sub_cons rfl (sub_cons rfl (sub_nil _))) rfl (fun hb16 => ?y16) (fun a ha => ⟨ha, rfl⟩)
                 case y16 =>
                  refine sc_seq fun K21 hK21 => ?_
                  refine sc_text [3, 3] ?_
                  refine sr_pu rfl (fun _ => rd_seq (ev_t rfl) ev_c) ?_
                  refine sr_pu rfl (fun _ => rd_assign (ev_t rfl)) ?_
                  refine sr_sub [(2, _, _), (3, _, _), (4, _, _)] (sub_cons rfl (sub_cons rfl (sub_cons rfl (sub_nil _)))) ?_
                  refine sr_nil (hK21 _ _ ?_)
                  refine' sc_or [(2, _, _)] (sub_cons rfl (sub_cons rfl (sub_nil _))) rfl (fun hb17 => ?y17) (fun a ha => ⟨ha, rfl⟩)
                  case y17 =>
                   refine sc_seq fun K22 hK22 => ?_
                   refine sc_text [3, 3] ?_
                   refine sr_pu rfl (fun _ => rd_seq (ev_t rfl) ev_c) ?_
                   refine sr_pu rfl (fun _ => rd_assign (ev_t rfl)) ?_
                   refine sr_sub [(2, _, _), (3, _, _), (4, _, _)] (sub_cons rfl (sub_cons rfl (sub_cons rfl (sub_nil _)))) ?_
                   refine sr_nil (hK22 _ _ ?_)
                   refine' sc_or [(2, _, _)] (sub_cons rfl (sub_cons rfl (sub_nil _))) rfl (fun hb18 => ?y18) (fun a ha => ⟨ha, rfl⟩)
                   case y18 =>
                    refine sc_seq fun K23 hK23 => ?_
                    refine sc_text [3, 3] ?_
                    refine sr_pu rfl (fun _ => rd_seq (ev_t rfl) ev_c) ?_
                    refine sr_pu rfl (fun _ => rd_assign (ev_t rfl)) ?_
                    refine sr_sub [(2, _, _), (3, _, _), (4, _, _)] (sub_cons rfl (sub_cons rfl (sub_cons rfl (sub_nil _)))) ?_
                    refine sr_nil (hK23 _ _ ?_)
                    refine' sc_or [(2, _, _)] (sub_cons rfl (sub_cons rfl (sub_nil _))) rfl (fun hb19 => ?y19) (fun a ha => ⟨ha, rfl⟩)
                    case y19 =>
                     refine sc_seq fun K24 hK24 => ?_
                     refine sc_text [3, 3] ?_
                     refine sr_pu rfl (fun _ => rd_seq (ev_t rfl) ev_c) ?_
                     refine sr_pu rfl (fun _ => rd_assign (ev_t rfl)) ?_
                     refine sr_sub [(2, _, _), (3, _, _), (4, _, _)] (sub_cons rfl (sub_cons rfl (sub_cons rfl (sub_nil _)))) ?_
                     refine sr_nil (hK24 _ _ ?_)
                     refine' sc_or [(2, _, _)] (sub_cons rfl (sub_cons rfl (sub_nil _))) rfl (fun hb20 => ?y20) (fun a ha => ⟨ha, rfl⟩)
                     case y20 =>
                      refine sc_seq fun K25 hK25 => ?_
                      refine sc_text [3, 3] ?_
                      refine sr_pu rfl (fun _ => rd_seq (ev_t rfl) ev_c) ?_
                      refine sr_pu rfl (fun _ => rd_assign (ev_t rfl)) ?_
                      refine sr_sub [(2, _, _), (3, _, _), (4, _, _)] (sub_cons rfl (sub_cons rfl (sub_cons rfl (sub_nil _)))) ?_
                      refine sr_nil (hK25 _ _ ?_)
                      refine' sc_or [(2, _, _)] (sub_cons rfl (sub_cons rfl (sub_nil _))) rfl (fun hb21 => ?y21) (fun a ha => ⟨ha, rfl⟩)
                      case y21 =>
                       refine sc_seq fun K26 hK26 => ?_
                       refine sc_text [3, 3] ?_
                       refine sr_pu rfl (fun _ => rd_seq (ev_t rfl) ev_c) ?_
                       refine sr_pu rfl (fun _ => rd_assign (ev_t rfl)) ?_
                       refine sr_sub [(2, _, _), (3, _, _), (4, _, _)] (sub_cons rfl (sub_cons rfl (sub_cons rfl (sub_nil _)))) ?_
                       refine sr_nil (hK26 _ _ ?_)
                       refine' sc_or [(2, _, _)] (sub_cons rfl (sub_cons rfl (sub_nil _))) rfl (fun hb22 => ?y22) (fun a ha => ⟨ha, rfl⟩)
                       case y22 =>
                        refine sc_seq fun K27 hK27 => ?_
                        refine sc_text [3, 3] ?_
                        refine sr_pu rfl (fun _ => rd_seq (ev_t rfl) ev_c) ?_
                        refine sr_pu rfl (fun _ => rd_assign (ev_t rfl)) ?_
                        refine sr_sub [(2, _, _), (3, _, _), (4, _, _)] (sub_cons rfl (sub_cons rfl (sub_cons rfl (sub_nil _)))) ?_
                        refine sr_nil (hK27 _ _ ?_)
                        refine' sc_or [(2, _, _)] (sub_cons rfl (sub_cons rfl (sub_nil _))) rfl (fun hb23 => ?y23) (fun a ha => ⟨ha, rfl⟩)
                        case y23 =>
                         refine sc_seq fun K28 hK28 => ?_
                         refine sc_text [3, 3] ?_
                         refine sr_pu rfl (fun _ => rd_seq (ev_t rfl) ev_c) ?_
                         refine sr_pu rfl (fun _ => rd_assign (ev_t rfl)) ?_
                         refine sr_sub [(2, _, _), (3, _, _), (4, _, _)] (sub_cons rfl (sub_cons rfl (sub_cons rfl (sub_nil _)))) ?_
                         refine sr_nil (hK28 _ _ ?_)
                         refine' sc_or [(2, _, _)] (sub_cons rfl (sub_cons rfl (sub_nil _))) rfl (fun hb24 => ?y24) (fun a ha => ⟨ha, rfl⟩)
                         case y24 =>
                          refine sc_seq fun K29 hK29 => ?_
                          refine sc_text [3, 3] ?_
                          refine sr_pu rfl (fun _ => rd_seq (ev_t rfl) ev_c) ?_
                          refine sr_pu rfl (fun _ => rd_assign (ev_t rfl)) ?_
                          refine sr_sub [(2, _, _), (3, _, _), (4, _, _)] (sub_cons rfl (sub_cons rfl (sub_cons rfl (sub_nil _)))) ?_
                          refine sr_nil (hK29 _ _ ?_)
                          refine' sc_or [(2, _, _)] (sub_cons rfl (sub_cons rfl (sub_nil _))) rfl (fun hb25 => ?y25) (fun a ha => ⟨ha, rfl⟩)
                          case y25 =>
                           refine sc_seq fun K30 hK30 => ?_
                           refine sc_text [3, 3] ?_
                           refine sr_pu rfl (fun _ => rd_seq (ev_t rfl) ev_c) ?_
                           refine sr_pu rfl (fun _ => rd_assign (ev_t rfl)) ?_
                           refine sr_sub [(2, _, _), (3, _, _), (4, _, _)] (sub_cons rfl (sub_cons rfl (sub_cons rfl (sub_nil _)))) ?_
                           refine sr_nil (hK30 _ _ ?_)
                           refine' sc_or [(2, _, _)] (sub_cons rfl (sub_cons rfl (sub_nil _))) rfl (fun hb26 => ?y26) (fun a ha => ⟨ha, rfl⟩)
                           case y26 =>
                            refine sc_seq fun K31 hK31 => ?_
                            refine sc_text [3, 3] ?_
                            refine sr_pu rfl (fun _ => rd_seq (ev_t rfl) ev_c) ?_
                            refine sr_pu rfl (fun _ => rd_assign (ev_t rfl)) ?_
                            refine sr_sub [(2, _, _), (3, _, _), (4, _, _)] (sub_cons rfl (sub_cons rfl (sub_cons rfl (sub_nil _)))) ?_
                            refine sr_nil (hK31 _ _ ?_)
                            refine' sc_or [(2, _, _)] (sub_cons rfl (sub_cons rfl (sub_nil _))) rfl (fun hb27 => ?y27) (fun a ha => ⟨ha, rfl⟩)
                            case y27 =>
                             refine sc_seq fun K32 hK32 => ?_
                             refine sc_text [3, 3] ?_
                             refine sr_pu rfl (fun _ => rd_seq (ev_t rfl) ev_c) ?_
                             refine sr_pu rfl (fun _ => rd_assign (ev_t rfl)) ?_
                             refine sr_sub [(2, _, _), (3, _, _), (4, _, _)] (sub_cons rfl (sub_cons rfl (sub_cons rfl (sub_nil _)))) ?_
                             refine sr_nil (hK32 _ _ ?_)
                             refine' sc_or [(2, _, _)] (sub_cons rfl (sub_cons rfl (sub_nil _))) rfl (fun hb28 => ?y28) (fun a ha => ⟨ha, rfl⟩)
                             case y28 =>
                              refine sc_text [3, 3] ?_
                              refine sr_pu rfl (fun _ => rd_seq (ev_t rfl) ev_c) ?_
                              refine sr_pu rfl (fun _ => rd_assign (ev_t rfl)) ?_
                              refine sr_sub [(4, _, _), (2, _, _)] (sub_cons rfl (sub_cons rfl (sub_nil _))) ?_
                              exact sr_nil (fun a ha => ⟨ha, rfl⟩)
  case n1 =>
   refine sc_cond (ev_t rfl) (fun h29 => ?_) (fun h29 => ?_)
   · (try simp only [bsimp] at h29)
     refine sc_seq fun K33 hK33 => ?_
     refine sc_text [3] ?_
     refine sr_pu rfl (fun _ => rd_assign ev_c) ?_
     refine sr_sub [(2, _, _)] (sub_cons rfl (sub_nil _)) ?_
     refine sr_nil (hK33 _ _ ?_)
     refine sc_ret (t_ret1 rfl rfl ?_)
     refine ⟨?_, g⟩; simp only [inB, kws, List.any_cons, List.any_nil, Bool.or_false]; rw [h29]
   (try simp only [bsimp] at h29)
   refine sc_skip (hK2 _ _ ?_)
   refine sc_sub [(2, _, _)] (sub_cons rfl (sub_nil _)) ?_
   refine sc_seq fun K34 hK34 => ?_
   refine sc_text [3] ?_
   refine sr_pu rfl (fun _ => rd_assign ev_c) ?_
   refine sr_nil (hK34 _ _ ?_)
   refine sc_ret (t_ret1 rfl rfl ?_)
   refine ⟨?_, g⟩; simp only [inB, kws, List.any_cons, List.any_nil, Bool.or_false]; rw [h29]
end Go.Rk
namespace Go.Rk
open Go Go.RowKit
def preB (p s : List UInt8) : Bool := decide (p.length ≤ s.length) && decide (s.take p.length = p)
theorem hasprefix_ok (s p : List UInt8) (w : World) : Ret PP fn_internal_stringslite_HasPrefix #[Str s, Str p] w fun v w' => v = .bool (preB p s) ∧ G w w' := by
  have g := G.refl w
  refine ret_of_sc (m := 18) func_internal_stringslite_HasPrefix rfl rfl [(0, True, _), (1, True, _)] (sub_cons rfl (sub_cons rfl (sub_nil _))) ?_
  refine sc_seq fun K1 hK1 => ?_
  refine sc_text [3] ?_
  refine sr_pu rfl (fun _ => rd_assign ev_c) ?_
  refine sr_nil (hK1 _ _ ?_)
  refine sc_seq fun K2 hK2 => ?_
  refine sc_text [3, 3, 3, 3, 3, 3, 3, 3, 3, 3, 3, 3, 3, 3] ?_
  refine sr_pu rfl (fun _ => rd_move (ev_t rfl)) ?_
  refine sr_pu rfl (fun _ => rd_slen str_string (ev_t rfl)) ?_
  refine sr_pu rfl (fun _ => rd_move (ev_t rfl)) ?_
  refine sr_pu rfl (fun _ => rd_slen str_string (ev_t rfl)) ?_
  refine sr_pu rfl (fun _ => rd_ge (ev_t rfl) (ev_t rfl)) ?_
  refine sr_pu rfl (fun _ => rd_move (ev_t rfl)) ?_
  refine sr_pug rfl rfl rfl (fun _ => rd_move (ev_t rfl)) ?_
  refine sr_pug rfl rfl rfl (fun _ => rd_move (ev_t rfl)) ?_
  refine sr_pug rfl rfl rfl (fun _ => rd_slen str_string (ev_u rfl id)) ?_
  refine sr_pug rfl rfl rfl (fun _ => rd_ssl_to str_string (ev_u rfl id) (ev_u rfl id) (fun hc => ⟨by omega, by have := of_decide_eq_true hc.2; omega⟩)) ?_
  refine sr_pug rfl rfl rfl (fun _ => rd_move (ev_t rfl)) ?_
  refine sr_pug rfl rfl rfl (fun _ => rd_seq (ev_u rfl id) (ev_u rfl id)) ?_
  refine sr_pu rfl (fun _ => rd_pick_and (ev_t rfl) (ev_u rfl id)) ?_
  refine sr_pu rfl (fun _ => rd_assign (ev_t rfl)) ?_
  refine sr_sub [(4, _, _)] (sub_cons rfl (sub_nil _)) ?_
  refine sr_nil (hK2 _ _ ?_)
  refine sc_ret (t_ret1 rfl rfl ?_)
  refine ⟨?_, g⟩; unfold preB; simp
theorem shasprefix_ok (s p : List UInt8) (w : World) : Ret PP fn_strings_HasPrefix #[Str s, Str p] w fun v w' => v = .bool (preB p s) ∧ G w w' := by
  have g := G.refl w
  refine ret_of_sc (m := 8) func_strings_HasPrefix rfl rfl [(0, True, _), (1, True, _)] (sub_cons rfl (sub_cons rfl (sub_nil _))) ?_
  refine sc_seq fun K1 hK1 => ?_
  refine sc_text [3] ?_
  refine sr_pu rfl (fun _ => rd_assign ev_c) ?_
  refine sr_nil (hK1 _ _ ?_)
  refine sc_seq fun K2 hK2 => ?_
  refine sc_text [3, 3, 1, 3] ?_
  refine sr_pu rfl (fun _ => rd_move (ev_t rfl)) ?_
  refine sr_pu rfl (fun _ => rd_move (ev_t rfl)) ?_
  refine sr_pure rfl (rc_call go_internal_stringslite_HasPrefix ev_f (args_cons (ev_t rfl) (args_cons (ev_t rfl) (args_nil))) rfl) (hasprefix_ok _ _ _) (fun w7 g7 => ?_)
  have g := g.trans (g7)
  refine sr_pu rfl (fun _ => rd_assign (ev_t rfl)) ?_
  refine sr_sub [(4, _, _)] (sub_cons rfl (sub_nil _)) ?_
  refine sr_nil (hK2 _ _ ?_)
  refine sc_ret (t_ret1 rfl rfl ?_)
  exact ⟨rfl, g⟩

structure Tok where
  kind : Int
  text : List UInt8
  pos : Int
def tokCells (t : Tok) : List Value := [.int .i64 t.kind, Str t.text, .int .i64 t.pos]
def toksCells (l : List Tok) : List Value := l.flatMap tokCells
theorem toksCells_length (l : List Tok) : (toksCells l).length = l.length * 3 := by
  unfold toksCells
  induction l with
  | nil => rfl
  | cons t l ih => rw [List.flatMap_cons, List.length_append, ih]; simp [tokCells]; omega
theorem toksCells_snoc (l : List Tok) (t : Tok) : toksCells (l ++ [t]) = toksCells l ++ tokCells t := by simp [toksCells]
/-- The scanner's state in block b: the text, the place, the tokens, the comments. -/
def Scn (base b : Nat) (s : List UInt8) (p : Nat) (ts cs : List Tok) (w : World) : Prop :=
  ∃ ta tc ca cc, Blk w b ty_scan_scanner [Str s, .int .i64 p, .slice ta ts.length tc, .slice ca cs.length cc] ∧ base ≤ b ∧ w.ownsRow base ty_api_Token 3 (.slice ta ts.length tc) ts.length (toksCells ts) ∧
    w.ownsRow base ty_api_Token 3 (.slice ca cs.length cc) cs.length (toksCells cs) ∧ (Value.slice ta ts.length tc).ownBlock ≠ some b ∧ (Value.slice ca cs.length cc).ownBlock ≠ some b ∧
    (∀ k, (Value.slice ta ts.length tc).ownBlock = some k → (Value.slice ca cs.length cc).ownBlock ≠ some k) ∧ ts.length ≤ p ∧ cs.length ≤ p ∧ p ≤ s.length ∧ s.length ≤ 20000

/-- How two rows stay apart where the first one grows. -/
theorem apart_append {w : World} {base : Nat} {e : TypeId} {z : Nat} {tv tv' cv : Value} {m : Nat} {xs : List Value} (hc : w.ownsRow base e z cv m xs) (n3 : ∀ k, tv.ownBlock = some k → cv.ownBlock ≠ some k)
    (hat : tv'.ownBlock = tv.ownBlock ∨ tv'.ownBlock = some w.heap.size) : ∀ k, tv'.ownBlock = some k → cv.ownBlock ≠ some k := by
  intro k hk
  rcases hat with e | e
  · exact n3 k (e ▸ hk)
  · rw [e] at hk; injection hk with hk; subst hk; exact own_ne hc (Nat.le_refl _)
theorem apart_blk {w : World} {b : Nat} {tv tv' : Value} (hb : b < w.heap.size) (n1 : tv.ownBlock ≠ some b) (hat : tv'.ownBlock = tv.ownBlock ∨ tv'.ownBlock = some w.heap.size) : tv'.ownBlock ≠ some b := by
  rcases hat with e | e <;> rw [e]
  · exact n1
  · intro h; injection h with h; omega
theorem apart_row {w w' : World} {base : Nat} {e : TypeId} {z : Nat} {tv cv : Value} {m : Nat} {xs : List Value} (hc : w.ownsRow base e z cv m xs) (n3 : ∀ k, tv.ownBlock = some k → cv.ownBlock ≠ some k) (hg : w.grownBy w' tv.ownBlock) : w'.ownsRow base e z cv m xs :=
  own_keep hc hg (by rcases hq : cv.ownBlock with _ | k; exact .inl rfl; exact .inr (fun he => n3 k he.symm hq))

theorem put_ok (base b : Nat) (s : List UInt8) (p : Nat) (ts cs : List Tok) (kind : Int) (size : Nat) (w : World) (hs : Scn base b s p ts cs w) (h1 : 1 ≤ size) (h2 : p + size ≤ s.length) :
    Ret PP fn_scan_scanner_put #[.pointer (some ⟨b, 0, none⟩), .int .i64 kind, .int .i64 size] w fun v w' => v = .tuple #[] ∧ Scn base b s (p + size) (ts ++ [⟨kind, (s.drop p).take size, p⟩]) cs w' ∧ Below base w w' := by
  obtain ⟨ta, tc, ca, cc, hB, hb0, ht, hc, n1, n2, n3, k1, k2, k3, k4⟩ := hs
  have hb : Below base w w := Below.refl _ _
  have hlt := hB.lt
  refine ret_of_sc (m := 44) func_scan_scanner_put rfl rfl [(0, True, _), (1, True, _), (2, True, _)] (sub_cons rfl (sub_cons rfl (sub_cons rfl (sub_nil _)))) ?_
  refine sc_seq fun K1 hK1 => ?_
  refine sc_draw [3, 3, 3, 3, 0, 3, 3, 3, 3, 0, 3, 3, 3, 0, 3, 3, 3, 0, 3, 3, 3, 3, 3, 3, 0, 3, 1, 2, 3, 3, 2] [true, true, true, true, true, true, true, true, true, true, true, true, true, true, true, true, true, true, true, true, true, true, true, true, true, true, true, true, true, true, true] [0, 0, 2, 6, 14, 0, 0, 64, 192, 448, 0, 1024, 3072, 7168, 0, 16384, 49152, 114688, 0, 507904, 1048512, 0, 2097152, 6291456, 14680064, 33554400, 67108832, 134217726, 268435455, 536870911, 1073741823] mix (by kernel_rfl) ?_
  have hb := hb.drew
  have hB : Blk w.drew _ _ _ := hB
  have ht := own_drew ht
  have hc := own_drew hc
  refine sr_pu rfl (fun _ => rd_move (ev_t rfl)) ?_
  refine sr_pu rfl (fun _ => rd_move (ev_t rfl)) ?_
  refine sr_pu rfl (fun _ => rd_nil (ev_t rfl)) ?_
  refine sr_pu rfl (fun _ => rd_field fo_scan_scanner_2 (ev_t rfl)) ?_
  refine sr_rd rfl (rd_load one_sl_api_Token (ev_t rfl) (fun _ => hB.at_ rfl)) ?_
  refine sr_pu rfl (fun _ => rd_move (ev_t rfl)) ?_
  refine sr_pu rfl (fun _ => rd_move (ev_t rfl)) ?_
  refine sr_pu rfl (fun _ => rd_nil (ev_t rfl)) ?_
  refine sr_pu rfl (fun _ => rd_field fo_scan_scanner_0 (ev_t rfl)) ?_
  refine sr_rd rfl (rd_load one_string (ev_t rfl) (fun _ => hB.at_ rfl)) ?_
  refine sr_pu rfl (fun _ => rd_move (ev_t rfl)) ?_
  refine sr_pu rfl (fun _ => rd_nil (ev_t rfl)) ?_
  refine sr_pu rfl (fun _ => rd_field fo_scan_scanner_1 (ev_t rfl)) ?_
  refine sr_rd rfl (rd_load one_int (ev_t rfl) (fun _ => hB.at_ rfl)) ?_
  refine sr_pu rfl (fun _ => rd_move (ev_t rfl)) ?_
  refine sr_pu rfl (fun _ => rd_nil (ev_t rfl)) ?_
  refine sr_pu rfl (fun _ => rd_field fo_scan_scanner_1 (ev_t rfl)) ?_
  refine sr_rd rfl (rd_load one_int (ev_t rfl) (fun _ => hB.at_ rfl)) ?_
  refine sr_pu rfl (fun _ => rd_move (ev_t rfl)) ?_
  refine sr_pu rfl (fun _ => rd_add (ev_t rfl) (ev_t rfl) (fun _ => by omega)) ?_
  refine sr_pu rfl (fun _ => rd_ssl str_string (ev_t rfl) (ev_t rfl) (ev_t rfl) (fun _ => by omega)) ?_
  refine sr_pu rfl (fun _ => rd_move (ev_t rfl)) ?_
  refine sr_pu rfl (fun _ => rd_nil (ev_t rfl)) ?_
  refine sr_pu rfl (fun _ => rd_field fo_scan_scanner_1 (ev_t rfl)) ?_
  refine sr_rd rfl (rd_load one_int (ev_t rfl) (fun _ => hB.at_ rfl)) ?_
  refine sr_pu rfl (fun _ => rd_build [_, _, _] ze_api_Token rfl pl_api_Token (parts_cons (ev_t rfl) (parts_cons (ev_t rfl) (parts_cons (ev_t rfl) (parts_nil)))) rfl) ?_
  refine sr_buildSlice [_, _, _] rfl el_sl_api_Token ze_api_Token (parts_cons (ev_t rfl) (parts_nil)) rfl rfl ?_
  intro b32 w32 N32
  have hb := hb.trans (below_g N32.g (by show base ≤ w.heap.size; omega))
  have hB := hB.grow N32.g
  have ht := own_grow ht N32.g
  have hc := own_grow hc N32.g
  have hlt := hB.lt
  have B32 := N32.blk
  refine sr_append rfl el_sl_api_Token ze_api_Token rfl (by decide) (ev_t rfl) ht (ev_t rfl) rfl N32.blk.row rfl (by simp only [maxLen]; omega) (by omega) (by omega) ?_
  intro ta' tc' w33 ht' hg hat
  have hb := below_only hb hg (by omega) (fun k hk => (ht.lt k hk).1)
  have hB := hB.keep hg (Ne.symm n1)
  have n3' := apart_append hc n3 hat
  have hc := apart_row hc n3 hg
  have n3 := n3'
  have n1 := apart_blk hlt n1 hat
  refine sr_pu rfl (fun _ => rd_nil (ev_t rfl)) ?_
  refine sr_pu rfl (fun _ => rd_field fo_scan_scanner_2 (ev_t rfl)) ?_
  refine sr_store rfl sz_sl_api_Token (ev_t rfl) (ev_t rfl) rfl rfl hB rfl rfl ?_
  intro w34 hg2 hz2 hB
  have hb := below_only hb hg2 (by have := hb.size; omega) (fun k hk => by injection hk with hk; omega)
  have ht' := own_keep ht' hg2 (.inr n1)
  have hc := own_keep hc hg2 (.inr n2)
  refine sr_sub [(0, _, _), (2, _, _)] (sub_cons rfl (sub_cons rfl (sub_nil _))) ?_
  refine sr_nil (hK1 _ _ ?_)
  refine sc_text [3, 3, 3, 0, 3, 3, 3, 3, 2] ?_
  refine sr_pu rfl (fun _ => rd_move (ev_t rfl)) ?_
  refine sr_pu rfl (fun _ => rd_nil (ev_t rfl)) ?_
  refine sr_pu rfl (fun _ => rd_field fo_scan_scanner_1 (ev_t rfl)) ?_
  refine sr_rd rfl (rd_load one_int (ev_t rfl) (fun _ => hB.at_ rfl)) ?_
  refine sr_pu rfl (fun _ => rd_move (ev_t rfl)) ?_
  refine sr_pu rfl (fun _ => rd_add (ev_t rfl) (ev_t rfl) (fun _ => by omega)) ?_
  refine sr_pu rfl (fun _ => rd_nil (ev_t rfl)) ?_
  refine sr_pu rfl (fun _ => rd_field fo_scan_scanner_1 (ev_t rfl)) ?_
  refine sr_store rfl sz_int (ev_t rfl) (ev_t rfl) rfl rfl hB rfl rfl ?_
  intro w44 hg3 hz3 hB
  have hb := below_only hb hg3 (by have := hb.size; omega) (fun k hk => by injection hk with hk; omega)
  have ht' := own_keep ht' hg3 (.inr n1)
  have hc := own_keep hc hg3 (.inr n2)
  refine sr_sub [] (sub_nil _) ?_
  refine sr_nil (t_end0 rfl ?_)
  have e : ((p : Int) + size).toNat - (p : Int).toNat = size := by omega
  rw [e] at ht'
  have hl : (ts ++ [(⟨kind, (s.drop p).take size, p⟩ : Tok)]).length = ts.length + 1 := by simp
  refine ⟨rfl, ⟨ta', tc', ca, cc, ?_, hb0, ?_, hc, ?_, n2, ?_, ?_, by omega, h2, k4⟩, hb⟩ <;> rw [hl]
  · exact hB
  · rw [toksCells_snoc]; exact ht'
  · exact n1
  · exact n3
  · omega
end Go.Rk
namespace Go.Rk
open Go Go.RowKit
/-- The scanner's state with its rows' headers. -/
structure SA (base b : Nat) (s : List UInt8) (p : Nat) (ts cs : List Tok) (ta : Option Addr) (tc : Nat) (ca : Option Addr) (cc : Nat) (w : World) : Prop where
  B : Blk w b ty_scan_scanner [Str s, .int .i64 p, .slice ta ts.length tc, .slice ca cs.length cc]
  hb : base ≤ b
  ht : w.ownsRow base ty_api_Token 3 (.slice ta ts.length tc) ts.length (toksCells ts)
  hc : w.ownsRow base ty_api_Token 3 (.slice ca cs.length cc) cs.length (toksCells cs)
  n1 : (Value.slice ta ts.length tc).ownBlock ≠ some b
  n2 : (Value.slice ca cs.length cc).ownBlock ≠ some b
  n3 : ∀ k, (Value.slice ta ts.length tc).ownBlock = some k → (Value.slice ca cs.length cc).ownBlock ≠ some k
theorem SA.grow {base b : Nat} {s : List UInt8} {p : Nat} {ts cs : List Tok} {ta : Option Addr} {tc : Nat} {ca : Option Addr} {cc : Nat} {w w1 : World} (h : SA base b s p ts cs ta tc ca cc w) (g : G w w1) : SA base b s p ts cs ta tc ca cc w1 :=
  { h with B := h.B.grow g, ht := own_grow h.ht g, hc := own_grow h.hc g }
theorem SA.scn {base b : Nat} {s : List UInt8} {p : Nat} {ts cs : List Tok} {ta : Option Addr} {tc : Nat} {ca : Option Addr} {cc : Nat} {w : World} (h : SA base b s p ts cs ta tc ca cc w) (k1 : ts.length ≤ p) (k2 : cs.length ≤ p) (k3 : p ≤ s.length) (k4 : s.length ≤ 20000) : Scn base b s p ts cs w :=
  ⟨ta, tc, ca, cc, h.B, h.hb, h.ht, h.hc, h.n1, h.n2, h.n3, k1, k2, k3, k4⟩
theorem Scn.sa {base b : Nat} {s : List UInt8} {p : Nat} {ts cs : List Tok} {w : World} (h : Scn base b s p ts cs w) : ∃ ta tc ca cc, SA base b s p ts cs ta tc ca cc w ∧ ts.length ≤ p ∧ cs.length ≤ p ∧ p ≤ s.length ∧ s.length ≤ 20000 := by
  obtain ⟨ta, tc, ca, cc, hB, hb0, ht, hc, n1, n2, n3, k1, k2, k3, k4⟩ := h
  exact ⟨ta, tc, ca, cc, ⟨hB, hb0, ht, hc, n1, n2, n3⟩, k1, k2, k3, k4⟩
theorem SA.base_le {base b : Nat} {s : List UInt8} {p : Nat} {ts cs : List Tok} {ta : Option Addr} {tc : Nat} {ca : Option Addr} {cc : Nat} {w : World} (h : SA base b s p ts cs ta tc ca cc w) : base ≤ w.heap.size := by have := h.hb; have := h.B.lt; omega
theorem SA.setp {base b : Nat} {s : List UInt8} {p q : Nat} {ts cs : List Tok} {ta : Option Addr} {tc : Nat} {ca : Option Addr} {cc : Nat} {w w1 : World} (h : SA base b s p ts cs ta tc ca cc w) (hg : w.grownBy w1 (some b))
    (hB : Blk w1 b ty_scan_scanner [Str s, .int .i64 q, .slice ta ts.length tc, .slice ca cs.length cc]) : SA base b s q ts cs ta tc ca cc w1 :=
  { h with B := hB, ht := own_keep h.ht hg (.inr h.n1), hc := own_keep h.hc hg (.inr h.n2) }
theorem below_go {base b : Nat} {a wk w1 w2 : World} (hb : Below base a wk) (g : G wk w1) (hg : w1.grownBy w2 (some b)) (hz : base ≤ wk.heap.size) (h : base ≤ b) : Below base a w2 := by
  have := g.size
  exact below_only (hb.trans (below_g g hz)) hg (by omega) (fun k hk => by injection hk with hk; omega)
theorem Scn.grow {base b : Nat} {s : List UInt8} {p : Nat} {ts cs : List Tok} {w w1 : World} (h : Scn base b s p ts cs w) (g : G w w1) : Scn base b s p ts cs w1 := by
  obtain ⟨ta, tc, ca, cc, h, k1, k2, k3, k4⟩ := h.sa
  exact (h.grow g).scn k1 k2 k3 k4
/-- A token is appended to the tokens, and stored. -/
theorem SA.putT {base b : Nat} {s : List UInt8} {p : Nat} {ts cs : List Tok} {ta : Option Addr} {tc : Nat} {ca : Option Addr} {cc : Nat} {w w1 w2 : World} {ta' : Option Addr} {tc' : Nat} {t : Tok} (h : SA base b s p ts cs ta tc ca cc w)
    (h1 : w1.ownsRow base ty_api_Token 3 (.slice ta' (ts.length + 1) tc') (ts.length + 1) (toksCells ts ++ tokCells t)) (hg : w.grownBy w1 (Value.slice ta ts.length tc).ownBlock)
    (hat : (Value.slice ta' (ts.length + 1) tc').ownBlock = (Value.slice ta ts.length tc).ownBlock ∨ (Value.slice ta' (ts.length + 1) tc').ownBlock = some w.heap.size) (hg2 : w1.grownBy w2 (some b))
    (hB : Blk w2 b ty_scan_scanner [Str s, .int .i64 p, .slice ta' (ts.length + 1) tc', .slice ca cs.length cc]) : SA base b s p (ts ++ [t]) cs ta' tc' ca cc w2 := by
  have n1 := apart_blk h.B.lt h.n1 hat
  have hl : (ts ++ [t]).length = ts.length + 1 := by simp
  have hc := apart_row h.hc h.n3 hg
  refine ⟨by rw [hl]; exact hB, h.hb, ?_, own_keep hc hg2 (.inr h.n2), by rw [hl]; exact n1, h.n2, ?_⟩
  · rw [hl, toksCells_snoc]; exact own_keep h1 hg2 (.inr n1)
  · rw [hl]; exact apart_append h.hc h.n3 hat
/-- A comment is appended to the comments, and stored. -/
theorem SA.putC {base b : Nat} {s : List UInt8} {p : Nat} {ts cs : List Tok} {ta : Option Addr} {tc : Nat} {ca : Option Addr} {cc : Nat} {w w1 w2 : World} {ca' : Option Addr} {cc' : Nat} {t : Tok} (h : SA base b s p ts cs ta tc ca cc w)
    (h1 : w1.ownsRow base ty_api_Token 3 (.slice ca' (cs.length + 1) cc') (cs.length + 1) (toksCells cs ++ tokCells t)) (hg : w.grownBy w1 (Value.slice ca cs.length cc).ownBlock)
    (hat : (Value.slice ca' (cs.length + 1) cc').ownBlock = (Value.slice ca cs.length cc).ownBlock ∨ (Value.slice ca' (cs.length + 1) cc').ownBlock = some w.heap.size) (hg2 : w1.grownBy w2 (some b))
    (hB : Blk w2 b ty_scan_scanner [Str s, .int .i64 p, .slice ta ts.length tc, .slice ca' (cs.length + 1) cc']) : SA base b s p ts (cs ++ [t]) ta tc ca' cc' w2 := by
  have n2 := apart_blk h.B.lt h.n2 hat
  have hl : (cs ++ [t]).length = cs.length + 1 := by simp
  have n3' : ∀ k, (Value.slice ca cs.length cc).ownBlock = some k → (Value.slice ta ts.length tc).ownBlock ≠ some k := fun k hk he => h.n3 k he hk
  have ht := apart_row h.ht n3' hg
  refine ⟨by rw [hl]; exact hB, h.hb, own_keep ht hg2 (.inr h.n1), ?_, h.n1, by rw [hl]; exact n2, ?_⟩
  · rw [hl, toksCells_snoc]; exact own_keep h1 hg2 (.inr n2)
  · rw [hl]; exact fun k hk he => apart_append h.ht n3' hat k he hk
def endsT (t : Tok) : Bool := (decide (t.kind = 1) || decide (t.kind = 2)) || inB endw t.text
def nlTs (p : Nat) (ts : List Tok) : List Tok := match ts.getLast? with
  | some t => if endsT t = true then ts ++ [⟨4, [59], p⟩] else ts
  | none => ts
theorem row_last {w : World} {b : Nat} {ts0 : List Tok} {t : Tok} (h : RowAt w b 0 (toksCells (ts0 ++ [t]))) : RowAt w b (0 + (((ts0 ++ [t]).length : Nat) - 1 : Int).toNat * 3) (tokCells t) := by
  have e : (((ts0 ++ [t]).length : Nat) - 1 : Int).toNat = ts0.length := by simp
  have k := h.part (ts0.length * 3) 3
  rw [e]
  have e2 : ((toksCells (ts0 ++ [t])).drop (ts0.length * 3)).take 3 = tokCells t := by
    rw [toksCells_snoc, List.drop_append_of_le_length (by rw [toksCells_length]; exact Nat.le_refl _), List.drop_of_length_le (by rw [toksCells_length]; exact Nat.le_refl _)]
    rfl
  rw [e2] at k; exact k
theorem newline_ok (base b : Nat) (s : List UInt8) (p : Nat) (ts cs : List Tok) (w : World) (hs : Scn base b s p ts cs w) (h2 : p < s.length) :
    Ret PP fn_scan_scanner_newline #[.pointer (some ⟨b, 0, none⟩)] w fun v w' => v = .tuple #[] ∧ Scn base b s (p + 1) (nlTs p ts) cs w' ∧ Below base w w' := by
  obtain ⟨ta, tc, ca, cc, hs, k1, k2, k3, k4⟩ := hs.sa
  have g := G.refl w
  have hb : Below base w w := Below.refl _ _
  refine ret_of_sc (m := 53) func_scan_scanner_newline rfl rfl [(0, True, _)] (sub_cons rfl (sub_nil _)) ?_
  refine sc_seq fun K1 hK1 => ?_
  refine sc_seq fun K2 hK2 => ?_
  refine sc_text [3, 3, 3, 0, 3, 3] ?_
  refine sr_pu rfl (fun _ => rd_move (ev_t rfl)) ?_
  refine sr_pu rfl (fun _ => rd_nil (ev_t rfl)) ?_
  refine sr_pu rfl (fun _ => rd_field fo_scan_scanner_2 (ev_t rfl)) ?_
  refine sr_rd rfl (rd_load one_sl_api_Token (ev_t rfl) (fun _ => by first | exact (hs.grow g).B.at_ rfl)) ?_
  refine sr_pu rfl (fun _ => rd_len el_sl_api_Token (ev_t rfl)) ?_
  refine sr_pu rfl (fun _ => rd_assign (ev_t rfl)) ?_
  refine sr_sub [(0, _, _), (2, _, _)] (sub_cons rfl (sub_cons rfl (sub_nil _))) ?_
  refine sr_nil (hK2 _ _ ?_)
  refine sc_seq fun K3 hK3 => ?_
  refine sc_text [3, 3] ?_
  refine sr_pu rfl (fun _ => rd_move (ev_t rfl)) ?_
  refine sr_pu rfl (fun _ => rd_gt (ev_t rfl) ev_c) ?_
  refine sr_sub [(0, _, _), (2, _, _), (10, _, _)] (sub_cons rfl (sub_cons rfl (sub_cons rfl (sub_nil _)))) ?_
  refine sr_nil (hK3 _ _ ?_)
  refine sc_cond (ev_t rfl) (fun h1 => ?_) (fun h1 => ?_)
  · have hp : 0 < ts.length := by simp only [decide_eq_true_eq] at h1; omega
    obtain ⟨ts0, t, ets⟩ : ∃ ts0 t, ts = ts0 ++ [t] := by
      rcases List.eq_nil_or_concat ts with e | ⟨l, x, e⟩
      · rw [e] at hp; cases hp
      · exact ⟨l, x, by simpa using e⟩
    subst ets
    obtain ⟨bt, ct, ev, _, hrow, _⟩ := own_pos hs.ht hp
    injection ev with e1 e2 e3
    subst e1
    have hrow' := row_last hrow
    have hne : nlTs p (ts0 ++ [t]) = if endsT t = true then (ts0 ++ [t]) ++ [⟨4, [59], p⟩] else ts0 ++ [t] := by simp [nlTs]
    refine sc_seq fun K4 hK4 => ?_
    refine sc_text [3, 3, 3, 0, 3, 3, 3, 0, 1, 2] ?_
    refine sr_pu rfl (fun _ => rd_move (ev_t rfl)) ?_
    refine sr_pu rfl (fun _ => rd_nil (ev_t rfl)) ?_
    refine sr_pu rfl (fun _ => rd_field fo_scan_scanner_2 (ev_t rfl)) ?_
    refine sr_rd rfl (rd_load one_sl_api_Token (ev_t rfl) (fun _ => by first | exact (hs.grow g).B.at_ rfl)) ?_
    refine sr_pu rfl (fun _ => rd_move (ev_t rfl)) ?_
    refine sr_pu rfl (fun _ => rd_sub (ev_t rfl) ev_c (fun _ => by omega)) ?_
    refine sr_pu rfl (fun _ => rd_idx el_sl_api_Token (ev_t rfl) (ev_t rfl) (fun _ => by omega)) ?_
    refine sr_rd rfl (rd_loads agg_api_Token (ev_t rfl) rfl (fun _ => hrow')) ?_
    refine sr_alloc rfl ze_api_Token rfl ?_
    intro b3 w3 N3
    have l3 := N3.ge g
    have g := g.trans (N3.g)
    have B3 := N3.blk
    refine sr_store_all rfl sz_api_Token (ev_t rfl) (ev_t rfl) rfl rfl B3 rfl rfl ?_
    intro wS1 hgS1 hzS1
    clear B3
    intro B3
    have g := g_only g hgS1 (by intro k hk; injection hk with hk; omega)
    refine sr_sub [(0, _, _), (3, _, _)] (sub_cons rfl (sub_cons rfl (sub_nil _))) ?_
    refine sr_nil (hK4 _ _ ?_)
    refine sc_seq fun K5 hK5 => ?_
    refine sc_text [3, 0, 3, 3, 3, 0, 3, 3, 3, 3, 0, 1, 3] ?_
    refine sr_pu rfl (fun _ => rd_field fo_api_Token_0 (ev_t rfl)) ?_
    refine sr_rd rfl (rd_load one_int (ev_t rfl) (fun _ => B3.at_ rfl)) ?_
    refine sr_pu rfl (fun _ => rd_eq (ev_t rfl) ev_c) ?_
    refine sr_pu rfl (fun _ => rd_move (ev_t rfl)) ?_
    refine sr_pug rfl rfl rfl (fun _ => rd_field fo_api_Token_0 (ev_t rfl)) ?_
    refine sr_rdg rfl rfl rfl (rd_load one_int (ev_u rfl id) (fun _ => B3.at_ rfl)) ?_
    refine sr_pug rfl rfl rfl (fun _ => rd_eq (ev_u rfl id) ev_c) ?_
    refine sr_pu rfl (fun _ => rd_pick_or (ev_t rfl) (ev_u rfl id)) ?_
    refine sr_pu rfl (fun _ => rd_move (ev_t rfl)) ?_
    refine sr_pug rfl rfl rfl (fun _ => rd_field fo_api_Token_1 (ev_t rfl)) ?_
    refine sr_rdg rfl rfl rfl (rd_load one_string (ev_u rfl id) (fun _ => B3.at_ rfl)) ?_
    refine sr_pureg rfl rfl rfl (fun _ => (rc_call go_scan_ending ev_f (args_cons (ev_u rfl id) (args_nil)) rfl)) (fun hc => ending_ok _ _) (fun w30 g30 => ?_)
    have g := g.trans (g30)
    replace B3 := B3.grow (g30)
    refine sr_pu rfl (fun _ => rd_pick_or (ev_t rfl) (ev_u rfl id)) ?_
    refine sr_sub [(0, _, _), (31, _, _)] (sub_cons rfl (sub_cons rfl (sub_nil _))) ?_
    refine sr_nil (hK5 _ _ ?_)
    refine sc_cond (ev_t rfl) (fun h2 => ?_) (fun h2 => ?_)
    · rw [if_pos (show endsT t = true from h2)] at hne
      have hl : (nlTs p (ts0 ++ [t])).length ≤ p + 1 := by rw [hne, List.length_append]; exact Nat.succ_le_succ k1
      refine sc_draw [3, 3, 3, 3, 0, 3, 3, 3, 0, 3, 1, 2, 3, 3, 2] [true, true, true, true, true, true, true, true, true, true, true, true, true, true, true] [0, 0, 2, 6, 14, 0, 32, 96, 224, 480, 992, 2046, 4095, 8191, 16383] mix (by kernel_rfl) ?_
      have g := g.trans (G.drew _)
      replace B3 := B3.grow (G.drew _)
      refine sr_pu rfl (fun _ => rd_move (ev_t rfl)) ?_
      refine sr_pu rfl (fun _ => rd_move (ev_t rfl)) ?_
      refine sr_pu rfl (fun _ => rd_nil (ev_t rfl)) ?_
      refine sr_pu rfl (fun _ => rd_field fo_scan_scanner_2 (ev_t rfl)) ?_
      refine sr_rd rfl (rd_load one_sl_api_Token (ev_t rfl) (fun _ => by first | exact (hs.grow g).B.at_ rfl | exact B3.at_ rfl | exact B3.row)) ?_
      refine sr_pu rfl (fun _ => rd_move (ev_t rfl)) ?_
      refine sr_pu rfl (fun _ => rd_nil (ev_t rfl)) ?_
      refine sr_pu rfl (fun _ => rd_field fo_scan_scanner_1 (ev_t rfl)) ?_
      refine sr_rd rfl (rd_load one_int (ev_t rfl) (fun _ => by first | exact (hs.grow g).B.at_ rfl | exact B3.at_ rfl | exact B3.row)) ?_
      refine sr_pu rfl (fun _ => rd_build [_, _, _] ze_api_Token rfl pl_api_Token (parts_cons ev_c (parts_cons ev_c (parts_cons (ev_t rfl) (parts_nil)))) rfl) ?_
      refine sr_buildSlice [_, _, _] rfl el_sl_api_Token ze_api_Token (parts_cons (ev_t rfl) (parts_nil)) rfl rfl ?_
      intro b42 w42 N42
      have x42_3 := N42.ne B3
      have l42 := N42.ge g
      have g := g.trans (N42.g)
      replace B3 := B3.grow (N42.g)
      have B42 := N42.blk
      have hb := hb.trans (below_g g hs.base_le)
      have hs := hs.grow g
      have hz0 := hs.base_le
      refine sr_append rfl el_sl_api_Token ze_api_Token rfl (by decide) (ev_t rfl) hs.ht (ev_t rfl) rfl N42.blk.row rfl (by simp only [maxLen]; omega) (by omega) (by omega) ?_
      intro ta' tc' w43 ht' hg43 hat
      have hB := hs.B.keep hg43 (Ne.symm hs.n1)
      have hz := hg43.size
      refine sr_pu rfl (fun _ => rd_nil (ev_t rfl)) ?_
      refine sr_pu rfl (fun _ => rd_field fo_scan_scanner_2 (ev_t rfl)) ?_
      refine sr_store rfl sz_sl_api_Token (ev_t rfl) (ev_t rfl) rfl rfl hB rfl rfl ?_
      intro w44 hg44 hz44 hB
      have hb := below_only (below_only hb hg43 hs.base_le (fun k hk => (hs.ht.lt k hk).1)) hg44 (by have := hs.base_le; omega) (fun k hk => by injection hk with hk; have := hs.hb; omega)
      have hs := hs.putT (t := ⟨4, [59], p⟩) ht' hg43 hat hg44 hB
      have g := G.refl w44
      refine sr_sub [(0, _, _)] (sub_cons rfl (sub_nil _)) ?_
      refine sr_nil (hK1 _ _ ?_)
      refine sc_text [3, 3, 3, 0, 3, 3, 3, 2] ?_
      refine sr_pu rfl (fun _ => rd_move (ev_t rfl)) ?_
      refine sr_pu rfl (fun _ => rd_nil (ev_t rfl)) ?_
      refine sr_pu rfl (fun _ => rd_field fo_scan_scanner_1 (ev_t rfl)) ?_
      refine sr_rd rfl (rd_load one_int (ev_t rfl) (fun _ => by first | exact (hs.grow g).B.at_ rfl | exact B3.at_ rfl | exact B3.row | exact B42.at_ rfl | exact B42.row)) ?_
      refine sr_pu rfl (fun _ => rd_add (ev_t rfl) ev_c (fun _ => by omega)) ?_
      refine sr_pu rfl (fun _ => rd_nil (ev_t rfl)) ?_
      refine sr_pu rfl (fun _ => rd_field fo_scan_scanner_1 (ev_t rfl)) ?_
      refine sr_store rfl sz_int (ev_t rfl) (ev_t rfl) rfl rfl (hs.grow g).B rfl rfl ?_
      intro w52 hg52 hz52 hB
      have hb := below_go hb g hg52 hs.base_le hs.hb
      have hs := (hs.grow g).setp (q := p + 1) hg52 hB
      refine sr_sub [] (sub_nil _) ?_
      refine sr_nil (t_end0 rfl ?_)
      refine ⟨rfl, ?_, hb⟩
      rw [hne] at hl ⊢
      exact hs.scn hl (by omega) (by omega) k4
    rw [if_neg (by intro h; rw [endsT, h2] at h; cases h)] at hne
    have hl : (nlTs p (ts0 ++ [t])).length ≤ p + 1 := by rw [hne]; omega
    refine sc_skip (hK1 _ _ ?_)
    refine sc_sub [(0, _, _)] (sub_cons rfl (sub_nil _)) ?_
    refine sc_text [3, 3, 3, 0, 3, 3, 3, 2] ?_
    refine sr_pu rfl (fun _ => rd_move (ev_t rfl)) ?_
    refine sr_pu rfl (fun _ => rd_nil (ev_t rfl)) ?_
    refine sr_pu rfl (fun _ => rd_field fo_scan_scanner_1 (ev_t rfl)) ?_
    refine sr_rd rfl (rd_load one_int (ev_t rfl) (fun _ => by first | exact (hs.grow g).B.at_ rfl | exact B3.at_ rfl | exact B3.row)) ?_
    refine sr_pu rfl (fun _ => rd_add (ev_t rfl) ev_c (fun _ => by omega)) ?_
    refine sr_pu rfl (fun _ => rd_nil (ev_t rfl)) ?_
    refine sr_pu rfl (fun _ => rd_field fo_scan_scanner_1 (ev_t rfl)) ?_
    refine sr_store rfl sz_int (ev_t rfl) (ev_t rfl) rfl rfl (hs.grow g).B rfl rfl ?_
    intro w52 hg52 hz52 hB
    have hb := below_go hb g hg52 hs.base_le hs.hb
    have hs := (hs.grow g).setp (q := p + 1) hg52 hB
    refine sr_sub [] (sub_nil _) ?_
    refine sr_nil (t_end0 rfl ?_)
    refine ⟨rfl, ?_, hb⟩
    rw [hne] at hl ⊢
    exact hs.scn hl (by omega) (by omega) k4
  have hp : ts = [] := List.eq_nil_of_length_eq_zero (by simp only [decide_eq_false_iff_not] at h1; omega)
  have hne : nlTs p ts = ts := by rw [hp]; rfl
  have hl : (nlTs p ts).length ≤ p + 1 := by rw [hne]; omega
  refine sc_skip (hK1 _ _ ?_)
  refine sc_sub [(0, _, _)] (sub_cons rfl (sub_nil _)) ?_
  refine sc_text [3, 3, 3, 0, 3, 3, 3, 2] ?_
  refine sr_pu rfl (fun _ => rd_move (ev_t rfl)) ?_
  refine sr_pu rfl (fun _ => rd_nil (ev_t rfl)) ?_
  refine sr_pu rfl (fun _ => rd_field fo_scan_scanner_1 (ev_t rfl)) ?_
  refine sr_rd rfl (rd_load one_int (ev_t rfl) (fun _ => by first | exact (hs.grow g).B.at_ rfl)) ?_
  refine sr_pu rfl (fun _ => rd_add (ev_t rfl) ev_c (fun _ => by omega)) ?_
  refine sr_pu rfl (fun _ => rd_nil (ev_t rfl)) ?_
  refine sr_pu rfl (fun _ => rd_field fo_scan_scanner_1 (ev_t rfl)) ?_
  refine sr_store rfl sz_int (ev_t rfl) (ev_t rfl) rfl rfl (hs.grow g).B rfl rfl ?_
  intro w52 hg52 hz52 hB
  have hb := below_go hb g hg52 hs.base_le hs.hb
  have hs := (hs.grow g).setp (q := p + 1) hg52 hB
  refine sr_sub [] (sub_nil _) ?_
  refine sr_nil (t_end0 rfl ?_)
  refine ⟨rfl, ?_, hb⟩
  rw [hne] at hl ⊢
  exact hs.scn hl (by omega) (by omega) k4
end Go.Rk
namespace Go.Rk
open Go Go.RowKit
/-- How many bytes in a row satisfy a condition. -/
def runN (q : Int → Bool) : List UInt8 → Nat
  | [] => 0
  | c :: l => if q c.toNat = true then runN q l + 1 else 0
theorem runN_step {q : Int → Bool} {s : List UInt8} {k : Nat} (h : k < s.length) (hq : q (s.getD k 0).toNat = true) : runN q (s.drop k) = runN q (s.drop (k + 1)) + 1 := by
  rw [List.drop_eq_getElem_cons h, runN, if_pos (by simpa [List.getD_eq_getElem?_getD, List.getElem?_eq_getElem h] using hq)]
theorem runN_stop {q : Int → Bool} {s : List UInt8} {k : Nat} (h : k < s.length → q (s.getD k 0).toNat = false) : runN q (s.drop k) = 0 := by
  by_cases hk : k < s.length
  · rw [List.drop_eq_getElem_cons hk, runN, if_neg]
    have := h hk
    simp [List.getD_eq_getElem?_getD, List.getElem?_eq_getElem hk] at this
    simp [this]
  · rw [List.drop_of_length_le (by omega)]; rfl
theorem runN_le (q : Int → Bool) (l : List UInt8) : runN q l ≤ l.length := by
  induction l with
  | nil => exact Nat.le_refl _
  | cons c l ih => rw [runN]; split <;> simp <;> omega
theorem run_ok (base b : Nat) (s : List UInt8) (p : Nat) (ts cs : List Tok) (w : World) (hs : Scn base b s p ts cs w) (f : Nat) (q : Int → Bool) (hgo : goFn PP f = true) (hf : ∀ c w, Ret PP f #[.int .u8 c] w fun v w' => v = .bool (q c) ∧ G w w') :
    Ret PP fn_scan_scanner_run #[.pointer (some ⟨b, 0, none⟩), .func (.func f) #[] #[]] w fun v w' => v = .int .i64 (runN q (s.drop p)) ∧ G w w' := by
  obtain ⟨ta, tc, ca, cc, hs, k1, k2, k3, k4⟩ := hs.sa
  have g := G.refl w
  refine ret_of_sc (m := 36) func_scan_scanner_run rfl rfl [(0, True, _), (1, True, _)] (sub_cons rfl (sub_cons rfl (sub_nil _))) ?_
  refine sc_seq fun K1 hK1 => ?_
  refine sc_text [3] ?_
  refine sr_pu rfl (fun _ => rd_assign ev_c) ?_
  refine sr_nil (hK1 _ _ ?_)
  refine sc_seq fun K2 hK2 => ?_
  refine sc_text [3] ?_
  refine sr_pu rfl (fun _ => rd_assign ev_c) ?_
  refine sr_nil (hK2 _ _ ?_)
  refine sc_seq fun K3 hK3 => ?_
  refine sc_block ?_
  refine sc_loop (fun (n : Nat) u => p + n ≤ s.length ∧ runN q (s.drop p) = n + runN q (s.drop (p + n)) ∧ G w u) (fun n => [(0, True, .pointer (some ⟨b, 0, none⟩)), (1, True, .func (.func f) #[] #[]), (5, True, .int .i64 n)]) (fun n => s.length - n) 0 ⟨by omega, by simp, g⟩ (sub_cons rfl (sub_cons rfl (sub_cons rfl (sub_nil _)))) ?_
  rintro n u ⟨hn, he, g⟩
  refine sc_seq fun K4 hK4 => ?_
  refine sc_seq fun K5 hK5 => ?_
  refine sc_draw [3, 3, 3, 0, 3, 3, 3, 3, 3, 0, 3, 3, 3, 3, 3, 3, 3, 0, 3, 3, 3, 0, 3, 3, 3, 1, 3] [true, true, true, true, true, true, true, true, true, true, true, true, true, true, true, true, true, true, true, true, true, true, true, true, true, true, true] [0, 1, 3, 7, 0, 31, 0, 64, 192, 448, 960, 2047, 4095, 8191, 8191, 24575, 57343, 122879, 8191, 270335, 794623, 1843199, 8191, 8134655, 16769023, 33554431, 67108863] mix (by kernel_rfl) ?_
  have g := g.trans (G.drew _)
  refine sr_pu rfl (fun _ => rd_move (ev_t rfl)) ?_
  refine sr_pu rfl (fun _ => rd_nil (ev_t rfl)) ?_
  refine sr_pu rfl (fun _ => rd_field fo_scan_scanner_1 (ev_t rfl)) ?_
  refine sr_rd rfl (rd_load one_int (ev_t rfl) (fun _ => by first | exact (hs.grow g).B.at_ rfl)) ?_
  refine sr_pu rfl (fun _ => rd_move (ev_t rfl)) ?_
  refine sr_pu rfl (fun _ => rd_add (ev_t rfl) (ev_t rfl) (fun _ => by omega)) ?_
  refine sr_pu rfl (fun _ => rd_move (ev_t rfl)) ?_
  refine sr_pu rfl (fun _ => rd_nil (ev_t rfl)) ?_
  refine sr_pu rfl (fun _ => rd_field fo_scan_scanner_0 (ev_t rfl)) ?_
  refine sr_rd rfl (rd_load one_string (ev_t rfl) (fun _ => by first | exact (hs.grow g).B.at_ rfl)) ?_
  refine sr_pu rfl (fun _ => rd_slen str_string (ev_t rfl)) ?_
  refine sr_pu rfl (fun _ => rd_lt (ev_t rfl) (ev_t rfl)) ?_
  refine sr_pu rfl (fun _ => rd_move (ev_t rfl)) ?_
  refine sr_pug rfl rfl rfl (fun _ => rd_move (ev_t rfl)) ?_
  refine sr_pug rfl rfl rfl (fun _ => rd_move (ev_t rfl)) ?_
  refine sr_pug rfl rfl rfl (fun _ => rd_nil (ev_u rfl id)) ?_
  refine sr_pug rfl rfl rfl (fun _ => rd_field fo_scan_scanner_0 (ev_u rfl id)) ?_
  refine sr_rdg rfl rfl rfl (rd_load one_string (ev_u rfl id) (fun _ => by first | exact (hs.grow g).B.at_ rfl)) ?_
  refine sr_pug rfl rfl rfl (fun _ => rd_move (ev_t rfl)) ?_
  refine sr_pug rfl rfl rfl (fun _ => rd_nil (ev_u rfl id)) ?_
  refine sr_pug rfl rfl rfl (fun _ => rd_field fo_scan_scanner_1 (ev_u rfl id)) ?_
  refine sr_rdg rfl rfl rfl (rd_load one_int (ev_u rfl id) (fun _ => by first | exact (hs.grow g).B.at_ rfl)) ?_
  refine sr_pug rfl rfl rfl (fun _ => rd_move (ev_t rfl)) ?_
  refine sr_pug rfl rfl rfl (fun _ => rd_add (ev_u rfl id) (ev_u rfl id) (fun _ => by omega)) ?_
  refine sr_pug rfl rfl rfl (fun _ => rd_sidx str_string (ev_u rfl id) (ev_u rfl id) (fun hc => by have := of_decide_eq_true hc.2; omega)) ?_
  refine sr_pureg rfl rfl rfl (fun _ => (rc_call hgo (ev_u rfl id) (args_cons (ev_u rfl id) (args_nil)) rfl)) (fun hc => hf _ _) (fun w31 g31 => ?_)
  have g := g.trans (g31)
  refine sr_pu rfl (fun _ => rd_pick_and (ev_t rfl) (ev_u rfl id)) ?_
  refine sr_sub [(0, _, _), (1, _, _), (5, _, _), (32, _, _)] (sub_cons rfl (sub_cons rfl (sub_cons rfl (sub_cons rfl (sub_nil _))))) ?_
  refine sr_nil (hK5 _ _ ?_)
  refine sc_cond (ev_t rfl) (fun h1 => ?_) (fun h1 => ?_)
  · simp only [Bool.and_eq_true, decide_eq_true_eq] at h1
    obtain ⟨h1, h2⟩ := h1
    have e : ((p : Int) + n).toNat = p + n := by omega
    rw [e] at h2
    have hst := runN_step (by omega) h2
    refine sc_skip (hK4 _ _ ?_)
    refine sc_sub [(0, _, _), (1, _, _), (5, _, _)] (sub_cons rfl (sub_cons rfl (sub_cons rfl (sub_nil _)))) ?_
    refine sc_block ?_
    refine sc_text [3, 3, 3] ?_
    refine sr_pu rfl (fun _ => rd_move (ev_t rfl)) ?_
    refine sr_pu rfl (fun _ => rd_add (ev_t rfl) ev_c (fun _ => by omega)) ?_
    refine sr_pu rfl (fun _ => rd_assign (ev_t rfl)) ?_
    refine sr_sub [(0, _, _), (1, _, _), (5, _, _)] (sub_cons rfl (sub_cons rfl (sub_cons rfl (sub_nil _)))) ?_
    refine sr_nil (fun a ha => ?_)
    exact ⟨n + 1, ha, ⟨by omega, by rw [he, hst, Nat.add_assoc p n 1]; omega, g⟩, by omega⟩
  have hst : runN q (s.drop (p + n)) = 0 := runN_stop fun hk => by
    have e : ((p : Int) + n).toNat = p + n := by omega
    rw [e, decide_eq_true (by omega : (p : Int) + n < s.length), Bool.true_and] at h1
    exact h1
  refine sc_exit rfl (hK3 _ _ ?_)
  refine sc_sub [(5, _, _)] (sub_cons rfl (sub_nil _)) ?_
  refine sc_seq fun K6 hK6 => ?_
  refine sc_text [3, 3] ?_
  refine sr_pu rfl (fun _ => rd_move (ev_t rfl)) ?_
  refine sr_pu rfl (fun _ => rd_assign (ev_t rfl)) ?_
  refine sr_nil (hK6 _ _ ?_)
  refine sc_sub [(4, _, _), (5, _, _), (35, _, _)] (sub_cons rfl (sub_cons rfl (sub_cons rfl (sub_nil _)))) ?_
  refine sc_ret (t_ret1 rfl rfl ?_)
  refine ⟨?_, g⟩
  rw [he, hst]; rfl
end Go.Rk
namespace Go.Rk
open Go Go.Shelf Go.RowKit
def laysC174_ren : Go.Shelf.Ren := ⟨fun | 174 => 180 | 247 => 188 | 245 => 189 | 287 => 192 | 279 => 193 | 280 => 194 | 281 => 195 | 282 => 196 | 321 => 197 | 322 => 198 | 316 => 199 | 171 => 132 | 205 => 200 | 243 => 153 | 246 => 162 | 283 => 167 | 284 => 168 | 285 => 169 | 286 => 170 | 129 => 182 | 317 => 181 | 318 => 183 | 319 => 184 | 320 => 185 | 337 => 190 | 338 => 191 | n => n, fun | 9 => 9 | 3 => 3 | 2 => 2 | 75 => 86 | 85 => 153 | 4 => 4 | 167 => 164 | 5 => 5 | 53 => 124 | 175 => 165 | 46 => 160 | 168 => 167 | 37 => 57 | 0 => 0 | 210 => 174 | 21 => 21 | 127 => 89 | 145 => 178 | 143 => 176 | 171 => 145 | 173 => 148 | 212 => 157 | 51 => 158 | 20 => 20 | 213 => 159 | 232 => 170 | 233 => 171 | 80 => 63 | n => n, fun | 15 => 4 | 16 => 5 | 17 => 1 | 18 => 2 | 19 => 3 | n => n⟩
theorem laysC174 : Go.Proofs.LaysC.n174 PP laysC174_ren := {
  mixed := by kernel_rfl
  f129 := Go.Proofs.Tryz.func182.trans (congrArg some (by kernel_rfl))
  f171 := Go.Proofs.Tryz.func132.trans (congrArg some (by kernel_rfl))
  f174 := Go.Proofs.Tryz.func180.trans (congrArg some (by kernel_rfl))
  f205 := Go.Proofs.Tryz.func200.trans (congrArg some (by kernel_rfl))
  f243 := Go.Proofs.Tryz.func153.trans (congrArg some (by kernel_rfl))
  f245 := Go.Proofs.Tryz.func189.trans (congrArg some (by kernel_rfl))
  f246 := Go.Proofs.Tryz.func162.trans (congrArg some (by kernel_rfl))
  f247 := Go.Proofs.Tryz.func188.trans (congrArg some (by kernel_rfl))
  f279 := Go.Proofs.Tryz.func193.trans (congrArg some (by kernel_rfl))
  f280 := Go.Proofs.Tryz.func194.trans (congrArg some (by kernel_rfl))
  f281 := Go.Proofs.Tryz.func195.trans (congrArg some (by kernel_rfl))
  f282 := Go.Proofs.Tryz.func196.trans (congrArg some (by kernel_rfl))
  f283 := Go.Proofs.Tryz.func167.trans (congrArg some (by kernel_rfl))
  f284 := Go.Proofs.Tryz.func168.trans (congrArg some (by kernel_rfl))
  f285 := Go.Proofs.Tryz.func169.trans (congrArg some (by kernel_rfl))
  f286 := Go.Proofs.Tryz.func170.trans (congrArg some (by kernel_rfl))
  f287 := Go.Proofs.Tryz.func192.trans (congrArg some (by kernel_rfl))
  f316 := Go.Proofs.Tryz.func199.trans (congrArg some (by kernel_rfl))
  f317 := Go.Proofs.Tryz.func181.trans (congrArg some (by kernel_rfl))
  f318 := Go.Proofs.Tryz.func183.trans (congrArg some (by kernel_rfl))
  f319 := Go.Proofs.Tryz.func184.trans (congrArg some (by kernel_rfl))
  f320 := Go.Proofs.Tryz.func185.trans (congrArg some (by kernel_rfl))
  f321 := Go.Proofs.Tryz.func197.trans (congrArg some (by kernel_rfl))
  f322 := Go.Proofs.Tryz.func198.trans (congrArg some (by kernel_rfl))
  f337 := Go.Proofs.Tryz.func190.trans (congrArg some (by kernel_rfl))
  f338 := Go.Proofs.Tryz.func191.trans (congrArg some (by kernel_rfl))
  t0 := Go.Proofs.Tryz.underlying0
  a0 := Go.Proofs.Tryz.isAgg0
  z0 := Go.Proofs.Tryz.sizeOf0
  v0 := Go.Proofs.Tryz.zeroValue0
  t2 := Go.Proofs.Tryz.underlying2
  a2 := Go.Proofs.Tryz.isAgg2
  z2 := Go.Proofs.Tryz.sizeOf2
  v2 := Go.Proofs.Tryz.zeroValue2
  t3 := Go.Proofs.Tryz.underlying3
  a3 := Go.Proofs.Tryz.isAgg3
  z3 := Go.Proofs.Tryz.sizeOf3
  v3 := Go.Proofs.Tryz.zeroValue3
  t4 := Go.Proofs.Tryz.underlying4
  a4 := Go.Proofs.Tryz.isAgg4
  z4 := Go.Proofs.Tryz.sizeOf4
  v4 := Go.Proofs.Tryz.zeroValue4
  t5 := Go.Proofs.Tryz.underlying5
  a5 := Go.Proofs.Tryz.isAgg5
  z5 := Go.Proofs.Tryz.sizeOf5
  v5 := Go.Proofs.Tryz.zeroValue5
  t9 := Go.Proofs.Tryz.underlying9
  a9 := Go.Proofs.Tryz.isAgg9
  z9 := Go.Proofs.Tryz.sizeOf9
  v9 := Go.Proofs.Tryz.zeroValue9
  t20 := Go.Proofs.Tryz.underlying20
  a20 := Go.Proofs.Tryz.isAgg20
  z20 := Go.Proofs.Tryz.sizeOf20
  v20 := Go.Proofs.Tryz.zeroValue20
  t21 := Go.Proofs.Tryz.underlying21
  a21 := Go.Proofs.Tryz.isAgg21
  z21 := Go.Proofs.Tryz.sizeOf21
  v21 := Go.Proofs.Tryz.zeroValue21
  t37 := Go.Proofs.Tryz.underlying57
  a37 := Go.Proofs.Tryz.isAgg57
  z37 := Go.Proofs.Tryz.sizeOf57
  v37 := Go.Proofs.Tryz.zeroValue57
  t46 := Go.Proofs.Tryz.underlying160
  a46 := Go.Proofs.Tryz.isAgg160
  z46 := Go.Proofs.Tryz.sizeOf160
  v46 := Go.Proofs.Tryz.zeroValue160
  t51 := Go.Proofs.Tryz.underlying158
  a51 := Go.Proofs.Tryz.isAgg158
  z51 := Go.Proofs.Tryz.sizeOf158
  v51 := Go.Proofs.Tryz.zeroValue158
  t53 := Go.Proofs.Tryz.underlying124
  a53 := Go.Proofs.Tryz.isAgg124
  z53 := Go.Proofs.Tryz.sizeOf124
  v53 := Go.Proofs.Tryz.zeroValue124
  t75 := Go.Proofs.Tryz.underlying86
  a75 := Go.Proofs.Tryz.isAgg86
  z75 := Go.Proofs.Tryz.sizeOf86
  v75 := Go.Proofs.Tryz.zeroValue86
  t85 := Go.Proofs.Tryz.underlying153
  a85 := Go.Proofs.Tryz.isAgg153
  z85 := Go.Proofs.Tryz.sizeOf153
  v85 := Go.Proofs.Tryz.zeroValue153
  t127 := Go.Proofs.Tryz.underlying89
  a127 := Go.Proofs.Tryz.isAgg89
  z127 := Go.Proofs.Tryz.sizeOf89
  v127 := Go.Proofs.Tryz.zeroValue89
  t143 := Go.Proofs.Tryz.underlying176
  a143 := Go.Proofs.Tryz.isAgg176
  z143 := Go.Proofs.Tryz.sizeOf176
  v143 := Go.Proofs.Tryz.zeroValue176
  t145 := Go.Proofs.Tryz.underlying178
  a145 := Go.Proofs.Tryz.isAgg178
  z145 := Go.Proofs.Tryz.sizeOf178
  v145 := Go.Proofs.Tryz.zeroValue178
  t167 := Go.Proofs.Tryz.underlying164
  a167 := Go.Proofs.Tryz.isAgg164
  z167 := Go.Proofs.Tryz.sizeOf164
  v167 := Go.Proofs.Tryz.zeroValue164
  t168 := Go.Proofs.Tryz.underlying167
  a168 := Go.Proofs.Tryz.isAgg167
  z168 := Go.Proofs.Tryz.sizeOf167
  v168 := Go.Proofs.Tryz.zeroValue167
  t171 := Go.Proofs.Tryz.underlying145
  a171 := Go.Proofs.Tryz.isAgg145
  z171 := Go.Proofs.Tryz.sizeOf145
  v171 := Go.Proofs.Tryz.zeroValue145
  t173 := Go.Proofs.Tryz.underlying148
  a173 := Go.Proofs.Tryz.isAgg148
  z173 := Go.Proofs.Tryz.sizeOf148
  v173 := Go.Proofs.Tryz.zeroValue148
  t175 := Go.Proofs.Tryz.underlying165
  a175 := Go.Proofs.Tryz.isAgg165
  z175 := Go.Proofs.Tryz.sizeOf165
  v175 := Go.Proofs.Tryz.zeroValue165
  t210 := Go.Proofs.Tryz.underlying174
  a210 := Go.Proofs.Tryz.isAgg174
  z210 := Go.Proofs.Tryz.sizeOf174
  v210 := Go.Proofs.Tryz.zeroValue174
  t212 := Go.Proofs.Tryz.underlying157
  a212 := Go.Proofs.Tryz.isAgg157
  z212 := Go.Proofs.Tryz.sizeOf157
  v212 := Go.Proofs.Tryz.zeroValue157
  t213 := Go.Proofs.Tryz.underlying159
  a213 := Go.Proofs.Tryz.isAgg159
  z213 := Go.Proofs.Tryz.sizeOf159
  t232 := Go.Proofs.Tryz.underlying170
  a232 := Go.Proofs.Tryz.isAgg170
  z232 := Go.Proofs.Tryz.sizeOf170
  v232 := Go.Proofs.Tryz.zeroValue170
  t233 := Go.Proofs.Tryz.underlying171
  a233 := Go.Proofs.Tryz.isAgg171
  z233 := Go.Proofs.Tryz.sizeOf171
  v233 := Go.Proofs.Tryz.zeroValue171
  g15 := by kernel_rfl
  g16 := by kernel_rfl
  g17 := by kernel_rfl
  g18 := by kernel_rfl
  g19 := by kernel_rfl
  t80 := Go.Proofs.Tryz.underlying63
  a80 := Go.Proofs.Tryz.isAgg63
  z80 := Go.Proofs.Tryz.sizeOf63
  v80 := Go.Proofs.Tryz.zeroValue63
  i0 := by kernel_rfl
  i2 := by kernel_rfl
  i3 := by kernel_rfl
  i4 := by kernel_rfl
  i5 := by kernel_rfl
  i9 := by kernel_rfl
  i20 := by kernel_rfl
  i21 := by kernel_rfl
  i37 := by kernel_rfl
  i46 := by kernel_rfl
  i51 := by kernel_rfl
  i53 := by kernel_rfl
  i75 := by kernel_rfl
  i80 := by kernel_rfl
  i85 := by kernel_rfl
  i127 := by kernel_rfl
  i143 := by kernel_rfl
  i145 := by kernel_rfl
  i167 := by kernel_rfl
  i168 := by kernel_rfl
  i171 := by kernel_rfl
  i173 := by kernel_rfl
  i175 := by kernel_rfl
  i210 := by kernel_rfl
  i212 := by kernel_rfl
  i232 := by kernel_rfl
  i233 := by kernel_rfl
  m15 := by kernel_rfl
  m16 := by kernel_rfl
  m17 := by kernel_rfl
  m18 := by kernel_rfl
  m19 := by kernel_rfl
  c0 := by kernel_rfl
  c2 := by kernel_rfl
  c3 := by kernel_rfl
  c4 := by kernel_rfl
  c5 := by kernel_rfl
  c9 := by kernel_rfl
  c20 := by kernel_rfl
  c21 := by kernel_rfl
  c37 := by kernel_rfl
  c46 := by kernel_rfl
  c51 := by kernel_rfl
  c53 := by kernel_rfl
  c75 := by kernel_rfl
  c80 := by kernel_rfl
  c85 := by kernel_rfl
  c127 := by kernel_rfl
  c143 := by kernel_rfl
  c145 := by kernel_rfl
  c167 := by kernel_rfl
  c168 := by kernel_rfl
  c171 := by kernel_rfl
  c173 := by kernel_rfl
  c175 := by kernel_rfl
  c210 := by kernel_rfl
  c212 := by kernel_rfl
  c213 := by kernel_rfl
  c232 := by kernel_rfl
  c233 := by kernel_rfl }
end Go.Rk
namespace Go.Rk
open Go Go.Shelf Go.RowKit
/-- The value of digits. -/
def valN (a : Nat) (l : List UInt8) : Nat := l.foldl (fun a c => a * 10 + (c.toNat - 48)) a
def allD (l : List UInt8) : Prop := ∀ c ∈ l, 48 ≤ c.toNat ∧ c.toNat ≤ 57
theorem valN_cons (a : Nat) (c : UInt8) (l : List UInt8) : valN a (c :: l) = valN (a * 10 + (c.toNat - 48)) l := List.foldl_cons ..
theorem valN_ge (l : List UInt8) : ∀ a, a ≤ valN a l := by
  induction l with
  | nil => exact fun a => Nat.le_refl _
  | cons c l ih => intro a; have := ih (a * 10 + (c.toNat - 48)); rw [valN_cons]; omega
theorem parseM_digits (M : Nat) (hM : M = 18446744073709551615) : ∀ (l : List UInt8) (a : Nat), allD l → Lib.parseUintM M a l = if l = [] then .ok a else if valN a l ≤ M then .ok (valN a l) else .range
  | [], a, _ => rfl
  | c :: l, a, h => by
    have hc := h c (List.mem_cons_self ..)
    have ih := parseM_digits M hM l (a * 10 + (c.toNat - 48)) (fun x hx => h x (List.mem_cons_of_mem _ hx))
    have hge := valN_ge l (a * 10 + (c.toNat - 48))
    rw [if_neg (by simp : ¬ (c :: l) = []), valN_cons]
    rw [Lib.parseUintM, if_pos hc]
    generalize hv : a * 10 + (c.toNat - 48) = v at ih hge ⊢
    by_cases h1 : 1844674407370955162 ≤ a
    · rw [if_pos h1, if_neg (by omega)]
    · rw [if_neg h1]
      by_cases h2 : M < v
      · rw [if_pos h2, if_neg (by omega)]
      · rw [if_neg h2, ih]
        by_cases hl : l = []
        · subst hl; rw [if_pos rfl]; rw [if_pos (show valN v [] ≤ M by show v ≤ M; omega)]; rfl
        · rw [if_neg hl]
theorem parseI_digits (l : List UInt8) (h : allD l) (hne : l ≠ []) : Lib.parseIntB 64 l = if valN 0 l < 9223372036854775808 then .ok (valN 0 l : Int) else .range := by
  cases l with
  | nil => exact absurd rfl hne
  | cons c r =>
    have hc := h c (List.mem_cons_self ..)
    have e1 : (2 : Nat) ^ (64 - 1) = 9223372036854775808 := by decide
    have e2 : (2 : Nat) ^ 64 - 1 = 18446744073709551615 := by decide
    have hm := parseM_digits _ rfl (c :: r) 0 h
    rw [if_neg (by simp : ¬ (c :: r) = [])] at hm
    simp only [Lib.parseIntB, Lib.parseUintB, e1, e2]
    rw [if_neg (by omega : ¬ (c.toNat = 43 ∨ c.toNat = 45)), if_neg (by simp : ¬ (c :: r) = []), hm]
    by_cases h2 : valN 0 (c :: r) ≤ 18446744073709551615
    · rw [if_pos h2]
      by_cases h3 : valN 0 (c :: r) < 9223372036854775808
      · rw [if_pos h3]; simp only []; rw [if_neg (by omega), if_neg (by omega), if_neg (by omega)]
      · rw [if_neg h3]; simp only []; rw [if_pos (by omega)]
    · rw [if_neg h2, if_neg (by omega)]
/-- The error of strconv.ParseInt, as far as it matters: whether it is nil. -/
theorem parse_ok (l : List UInt8) (h : allD l) (hne : l ≠ []) (hl : l.length ≤ 20000) (w : World) (ev : Value) (hv : w.cell? ⟨5, 0, none⟩ = some ev) (hev : ev = .nilIface ∨ ∃ te pe, ev = .iface te pe) :
    Ret PP fn_strconv_ParseInt #[Str l, .int .i64 10, .int .i64 64] w fun v w' => (∃ x e, v = .tuple #[.int .i64 x, e] ∧ (e = .nilIface ∨ ∃ a b, e = .iface a b) ∧ nilV e = decide (valN 0 l < 9223372036854775808)) ∧ G w w' := by
  have hp := parseI_digits l h hne
  by_cases h3 : valN 0 l < 9223372036854775808
  · rw [if_pos h3] at hp
    refine (Go.Proofs.Any.strconv_ParseInt_10_at64_ok laysC174 ⟨l.toArray⟩ (by simp [ByteArray.size]; omega) _ (by simpa using hp) w).mono ?_
    rintro e w' ⟨rfl, hw⟩
    refine ⟨_, rfl, ⟨_, .nilIface, rfl, .inl rfl, by rw [decide_eq_true h3]; rfl⟩, ?_⟩
    rcases hw with rfl | ⟨t, rfl⟩
    · exact G.refl _
    · exact Lib.bytesWorld_below _ _ _
  · rw [if_neg h3] at hp
    refine (Go.Proofs.Any.strconv_ParseInt_10_at64_range laysC174 ⟨l.toArray⟩ (by simp [ByteArray.size]; omega) (by simpa using hp) ev w hv hev).mono ?_
    rintro e w' ⟨N, rfl, _, _, hb⟩
    exact ⟨_, rfl, ⟨_, _, rfl, .inr ⟨_, _, rfl⟩, by rw [decide_eq_false h3]; rfl⟩, hb⟩
end Go.Rk
