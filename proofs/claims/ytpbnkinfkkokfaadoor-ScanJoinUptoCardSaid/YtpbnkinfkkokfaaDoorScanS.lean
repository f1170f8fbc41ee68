/- The reference's operator, its rule for a line feed, the token at a place. Conditions: none. -/
import Derived.Test.YtpbnkinfkkokfaaDoorScanR
namespace Go.Rk
open Go Go.RowKit
def opLenR (l : List UInt8) : Nat := bif decide (2 ≤ l.length) && inB opsL (l.take 2) then 2 else bif decide (1 ≤ l.length) && inB opsL (l.take 1) then 1 else 0
theorem operator_ok (l : List UInt8) (hl : l.length ≤ 20000) (w : World) : Ret PP fn_r02_operator #[Str l] w fun v w' => v = Str (l.take (opLenR l)) ∧ G w w' := by
  have g := G.refl w
  refine ret_of_sc (m := 46) func_r02_operator rfl rfl [(0, True, _)] (sub_cons rfl (sub_nil _)) ?_
  refine sc_seq fun K1 hK1 => ?_
  refine sc_text [3] ?_
  refine sr_pu rfl (fun _ => rd_assign ev_c) ?_
  refine sr_nil (hK1 _ _ ?_)
  refine sc_seq fun K2 hK2 => ?_
  refine sc_seq fun K3 hK3 => ?_
  refine sc_text [3] ?_
  refine sr_pu rfl (fun _ => rd_assign ev_c) ?_
  refine sr_nil (hK3 _ _ ?_)
  refine sc_block ?_
  refine sc_loop (fun (n : Nat) u => n ≤ 2 ∧ (∀ m, n < m → m ≤ 2 → (decide (m ≤ l.length) && inB opsL (l.take m)) = false) ∧ G w u) (fun n => [(0, True, Str l), (3, True, .int .i64 n)]) (fun n => n) 2 ⟨by omega, by intro m h1 h2; omega, g⟩ (sub_cons rfl (sub_cons rfl (sub_nil _))) ?_
  rintro n u ⟨hn, hm, g⟩
  refine sc_seq fun K4 hK4 => ?_
  refine sc_seq fun K5 hK5 => ?_
  refine sc_text [3, 3] ?_
  refine sr_pu rfl (fun _ => rd_move (ev_t rfl)) ?_
  refine sr_pu rfl (fun _ => rd_ge (ev_t rfl) ev_c) ?_
  refine sr_sub [(0, _, _), (3, _, _), (5, _, _)] (sub_cons rfl (sub_cons rfl (sub_cons rfl (sub_nil _)))) ?_
  refine sr_nil (hK5 _ _ ?_)
  refine sc_cond (ev_t rfl) (fun h1 => ?_) (fun h1 => ?_)
  · replace h1 : 1 ≤ n := by simp only [decide_eq_true_eq] at h1; omega
    refine sc_skip (hK4 _ _ ?_)
    refine sc_sub [(0, _, _), (3, _, _)] (sub_cons rfl (sub_cons rfl (sub_nil _))) ?_
    refine sc_seq fun K6 hK6 => ?_
    refine sc_block ?_
    refine sc_seq fun K7 hK7 => ?_
    refine sc_seq fun K8 hK8 => ?_
    refine sc_text [3, 3, 3, 3] ?_
    refine sr_pu rfl (fun _ => rd_move (ev_t rfl)) ?_
    refine sr_pu rfl (fun _ => rd_slen str_string (ev_t rfl)) ?_
    refine sr_pu rfl (fun _ => rd_move (ev_t rfl)) ?_
    refine sr_pu rfl (fun _ => rd_lt (ev_t rfl) (ev_t rfl)) ?_
    refine sr_sub [(0, _, _), (3, _, _), (11, _, _)] (sub_cons rfl (sub_cons rfl (sub_cons rfl (sub_nil _)))) ?_
    refine sr_nil (hK8 _ _ ?_)
    refine sc_cond (ev_t rfl) (fun h2 => ?_) (fun h2 => ?_)
    · have hk : (decide (n ≤ l.length) && inB opsL (l.take n)) = false := by
        simp only [decide_eq_true_eq] at h2; rw [decide_eq_false (by omega : ¬ n ≤ l.length)]; rfl
      refine sc_exit rfl (hK6 _ _ ?_)
      refine sc_sub [(0, _, _), (3, _, _)] (sub_cons rfl (sub_cons rfl (sub_nil _))) ?_
      refine sc_text [3, 3, 3] ?_
      refine sr_pu rfl (fun _ => rd_move (ev_t rfl)) ?_
      refine sr_pu rfl (fun _ => rd_subr (r := ((n - 1 : Nat) : Int)) (ev_t rfl) ev_c (fun hc => (by rw [i64_id ⟨by omega, by omega⟩]; omega))) ?_
      refine sr_pu rfl (fun _ => rd_assign (ev_t rfl)) ?_
      refine sr_sub [(0, _, _), (3, _, _)] (sub_cons rfl (sub_cons rfl (sub_nil _))) ?_
      refine sr_nil (fun a ha => ?_)
      refine ⟨n - 1, ha, ⟨by omega, ?_, g⟩, by omega⟩
      intro m h1 h2
      by_cases e : m = n
      · rw [e]; exact hk
      · exact hm m (by omega) h2
    · have hlen : n ≤ l.length := by simp only [decide_eq_false_iff_not] at h2; omega
      refine sc_skip (hK7 _ _ ?_)
      refine sc_sub [(0, _, _), (3, _, _)] (sub_cons rfl (sub_cons rfl (sub_nil _))) ?_
      refine sc_seq fun K9 hK9 => ?_
      refine sc_text [3, 3, 3] ?_
      refine sr_pu rfl (fun _ => rd_move (ev_t rfl)) ?_
      refine sr_pu rfl (fun _ => rd_move (ev_t rfl)) ?_
      refine sr_pu rfl (fun _ => rd_ssl_to str_string (ev_t rfl) (ev_t rfl) (fun _ => by omega)) ?_
      refine sr_sub [(0, _, _), (3, _, _), (14, _, _)] (sub_cons rfl (sub_cons rfl (sub_cons rfl (sub_nil _)))) ?_
      refine sr_nil (hK9 _ _ ?_)
      refine sc_block ?_
      refine sc_seq fun K10 hK10 => ?_
      refine sc_seq fun K11 hK11 => ?_
      refine sc_text [3, 3] ?_
      refine sr_pu rfl (fun _ => rd_seq (ev_t rfl) ev_c) ?_
      refine sr_pu rfl (fun _ => rd_assign (ev_t rfl)) ?_
      refine sr_sub [(0, _, _), (3, _, _), (14, _, _), (15, _, _)] (sub_cons rfl (sub_cons rfl (sub_cons rfl (sub_cons rfl (sub_nil _))))) ?_
      refine sr_nil (hK11 _ _ ?_)
      refine' sc_or [(0, _, _), (3, _, _)] (sub_cons rfl (sub_cons rfl (sub_cons rfl (sub_nil _)))) rfl (fun hb3 => ?y3) (hK10 _ _ ?n3)
      case y3 =>
       refine sc_seq fun K12 hK12 => ?_
       refine sc_text [3, 3] ?_
       refine sr_pu rfl (fun _ => rd_seq (ev_t rfl) ev_c) ?_
       refine sr_pu rfl (fun _ => rd_assign (ev_t rfl)) ?_
       refine sr_sub [(0, _, _), (3, _, _), (14, _, _), (15, _, _)] (sub_cons rfl (sub_cons rfl (sub_cons rfl (sub_cons rfl (sub_nil _))))) ?_
       refine sr_nil (hK12 _ _ ?_)
       refine' sc_or [(0, _, _), (3, _, _)] (sub_cons rfl (sub_cons rfl (sub_cons rfl (sub_nil _)))) rfl (fun hb4 => ?y4) (fun a ha => ⟨ha, rfl⟩)
       case y4 =>
        refine sc_seq fun K13 hK13 => ?_
        refine sc_text [3, 3] ?_
        refine sr_pu rfl (fun _ => rd_seq (ev_t rfl) ev_c) ?_
        refine sr_pu rfl (fun _ => rd_assign (ev_t rfl)) ?_
        refine sr_sub [(0, _, _), (3, _, _), (14, _, _), (15, _, _)] (sub_cons rfl (sub_cons rfl (sub_cons rfl (sub_cons rfl (sub_nil _))))) ?_
        refine sr_nil (hK13 _ _ ?_)
        refine' sc_or [(0, _, _), (3, _, _)] (sub_cons rfl (sub_cons rfl (sub_cons rfl (sub_nil _)))) rfl (fun hb5 => ?y5) (fun a ha => ⟨ha, rfl⟩)
        case y5 =>
         refine sc_seq fun K14 hK14 => ?_
         refine sc_text [3, 3] ?_
         refine sr_pu rfl (fun _ => rd_seq (ev_t rfl) ev_c) ?_
         refine sr_pu rfl (fun _ => rd_assign (ev_t rfl)) ?_
         refine sr_sub [(0, _, _), (3, _, _), (14, _, _), (15, _, _)] (sub_cons rfl (sub_cons rfl (sub_cons rfl (sub_cons rfl (sub_nil _))))) ?_
         refine sr_nil (hK14 _ _ ?_)
         refine' sc_or [(0, _, _), (3, _, _)] (sub_cons rfl (sub_cons rfl (sub_cons rfl (sub_nil _)))) rfl (fun hb6 => ?y6) (fun a ha => ⟨ha, rfl⟩)
         case y6 =>
          refine sc_seq fun K15 hK15 => ?_
          refine sc_text [3, 3] ?_
          refine sr_pu rfl (fun _ => rd_seq (ev_t rfl) ev_c) ?_
          refine sr_pu rfl (fun _ => rd_assign (ev_t rfl)) ?_
          refine sr_sub [(0, _, _), (3, _, _), (14, _, _), (15, _, _)] (sub_cons rfl (sub_cons rfl (sub_cons rfl (sub_cons rfl (sub_nil _))))) ?_
          refine sr_nil (hK15 _ _ ?_)
          refine' sc_or [(0, _, _), (3, _, _)] (sub_cons rfl (sub_cons rfl (sub_cons rfl (sub_nil _)))) rfl (fun hb7 => ?y7) (fun a ha => ⟨ha, rfl⟩)
          case y7 =>
           refine sc_seq fun K16 hK16 => ?_
           refine sc_text [3, 3] ?_
           refine sr_pu rfl (fun _ => rd_seq (ev_t rfl) ev_c) ?_
           refine sr_pu rfl (fun _ => rd_assign (ev_t rfl)) ?_
           refine sr_sub [(0, _, _), (3, _, _), (14, _, _), (15, _, _)] (sub_cons rfl (sub_cons rfl (sub_cons rfl (sub_cons rfl (sub_nil _))))) ?_
           refine sr_nil (hK16 _ _ ?_)
           refine' sc_or [(0, _, _), (3, _, _)] (sub_cons rfl (sub_cons rfl (sub_cons rfl (sub_nil _)))) rfl (fun hb8 => ?y8) (fun a ha => ⟨ha, rfl⟩)
           case y8 =>
            refine sc_seq fun K17 hK17 => ?_
            refine sc_text [3, 3] ?_
            refine sr_pu rfl (fun _ => rd_seq (ev_t rfl) ev_c) ?_
            refine sr_pu rfl (fun _ => rd_assign (ev_t rfl)) ?_
            refine sr_sub [(0, _, _), (3, _, _), (14, _, _), (15, _, _)] (sub_cons rfl (sub_cons rfl (sub_cons rfl (sub_cons rfl (sub_nil _))))) ?_
            refine sr_nil (hK17 _ _ ?_)
            refine' sc_or [(0, _, _), (3, _, _)] (sub_cons rfl (sub_cons rfl (sub_cons rfl (sub_nil _)))) rfl (fun hb9 => ?y9) (fun a ha => ⟨ha, rfl⟩)
            case y9 =>
             refine sc_seq fun K18 hK18 => ?_
             refine sc_text [3, 3] ?_
             refine sr_pu rfl (fun _ => rd_seq (ev_t rfl) ev_c) ?_
             refine sr_pu rfl (fun _ => rd_assign (ev_t rfl)) ?_
             refine sr_sub [(0, _, _), (3, _, _), (14, _, _), (15, _, _)] (sub_cons rfl (sub_cons rfl (sub_cons rfl (sub_cons rfl (sub_nil _))))) ?_
             refine sr_nil (hK18 _ _ ?_)
             refine' sc_or [(0, _, _), (3, _, _)] (sub_cons rfl (sub_cons rfl (sub_cons rfl (sub_nil _)))) rfl (fun hb10 => ?y10) (fun a ha => ⟨ha, rfl⟩)
             case y10 =>
              refine sc_seq fun K19 hK19 => ?_
              refine sc_text [3, 3] ?_
              refine sr_pu rfl (fun _ => rd_seq (ev_t rfl) ev_c) ?_
              refine sr_pu rfl (fun _ => rd_assign (ev_t rfl)) ?_
              refine sr_sub [(0, _, _), (3, _, _), (14, _, _), (15, _, _)] (sub_cons rfl (sub_cons rfl (sub_cons rfl (sub_cons rfl (sub_nil _))))) ?_
              refine sr_nil (hK19 _ _ ?_)
              refine' sc_or [(0, _, _), (3, _, _)] (sub_cons rfl (sub_cons rfl (sub_cons rfl (sub_nil _)))) rfl (fun hb11 => ?y11) (fun a ha => ⟨ha, rfl⟩)
              case y11 =>
               refine sc_seq fun K20 hK20 => ?_
               refine sc_text [3, 3] ?_
               refine sr_pu rfl (fun _ => rd_seq (ev_t rfl) ev_c) ?_
               refine sr_pu rfl (fun _ => rd_assign (ev_t rfl)) ?_
               refine sr_sub [(0, _, _), (3, _, _), (14, _, _), (15, _, _)] (sub_cons rfl (sub_cons rfl (sub_cons rfl (sub_cons rfl (sub_nil _))))) ?_
               refine sr_nil (hK20 _ _ ?_)
               refine' sc_or [(0, _, _), (3, _, _)] (sub_cons rfl (sub_cons rfl (sub_cons rfl (sub_nil _)))) rfl (fun hb12 => ?y12) (fun a ha => ⟨ha, rfl⟩)
               case y12 =>
                refine sc_seq fun K21 hK21 => ?_
                refine sc_text [3, 3] ?_
                refine sr_pu rfl (fun _ => rd_seq (ev_t rfl) ev_c) ?_
                refine sr_pu rfl (fun _ => rd_assign (ev_t rfl)) ?_
                refine sr_sub [(0, _, _), (3, _, _), (14, _, _), (15, _, _)] (sub_cons rfl (sub_cons rfl (sub_cons rfl (sub_cons rfl (sub_nil _))))) ?_
                refine sr_nil (hK21 _ _ ?_)
                refine' sc_or [(0, _, _), (3, _, _)] (sub_cons rfl (sub_cons rfl (sub_cons rfl (sub_nil _)))) rfl (fun hb13 => ?y13) (fun a ha => ⟨ha, rfl⟩)
                case y13 =>
                 refine sc_seq fun K22 hK22 => ?_
                 refine sc_text [3, 3] ?_
                 refine sr_pu rfl (fun _ => rd_seq (ev_t rfl) ev_c) ?_
                 refine sr_pu rfl (fun _ => rd_assign (ev_t rfl)) ?_
                 refine sr_sub [(0, _, _), (3, _, _), (14, _, _), (15, _, _)] (sub_cons rfl (sub_cons rfl (sub_cons rfl (sub_cons rfl (sub_nil _))))) ?_
                 refine sr_nil (hK22 _ _ ?_)
                 refine' sc_or [(0, _, _), (3, _, _)] (sub_cons rfl (sub_cons rfl (sub_cons rfl (sub_nil _)))) rfl (fun hb14 => ?y14) (fun a ha => ⟨ha, rfl⟩)
                 case y14 =>
                  refine sc_seq fun K23 hK23 => ?_
                  refine sc_text [3, 3] ?_
                  refine sr_pu rfl (fun _ => rd_seq (ev_t rfl) ev_c) ?_
                  refine sr_pu rfl (fun _ => rd_assign (ev_t rfl)) ?_
                  refine sr_sub [(0, _, _), (3, _, _), (14, _, _), (15, _, _)] (sub_cons rfl (sub_cons rfl (sub_cons rfl (sub_cons rfl (sub_nil _))))) ?_
                  refine sr_nil (hK23 _ _ ?_)
                  refine' sc_or [(0, _, _), (3, _, _)] (sub_cons rfl (sub_cons rfl (sub_cons rfl (sub_nil _)))) rfl (fun hb15 => ?y15) (fun a ha => ⟨ha, rfl⟩)
                  case y15 =>
                   refine sc_seq fun K24 hK24 => ?_
                   refine sc_text [3, 3] ?_
                   refine sr_pu rfl (fun _ => rd_seq (ev_t rfl) ev_c) ?_
                   refine sr_pu rfl (fun _ => rd_assign (ev_t rfl)) ?_
                   refine sr_sub [(0, _, _), (3, _, _), (14, _, _), (15, _, _)] (sub_cons rfl (sub_cons rfl (sub_cons rfl (sub_cons rfl (sub_nil _))))) ?_
                   refine sr_nil (hK24 _ _ ?_)
                   refine' sc_or [(0, _, _), (3, _, _)] (sub_cons rfl (sub_cons rfl (sub_cons rfl (sub_nil _)))) rfl (fun hb16 => ?y16) (fun a ha => ⟨ha, rfl⟩)
                   case y16 =>
                    refine sc_seq fun K25 hK25 => ?_
                    refine sc_text [3, 3] ?_
                    refine sr_pu rfl (fun _ => rd_seq (ev_t rfl) ev_c) ?_
                    refine sr_pu rfl (fun _ => rd_assign (ev_t rfl)) ?_
                    refine sr_sub [(0, _, _), (3, _, _), (14, _, _), (15, _, _)] (sub_cons rfl (sub_cons rfl (sub_cons rfl (sub_cons rfl (sub_nil _))))) ?_
                    refine sr_nil (hK25 _ _ ?_)
                    refine' sc_or [(0, _, _), (3, _, _)] (sub_cons rfl (sub_cons rfl (sub_cons rfl (sub_nil _)))) rfl (fun hb17 => ?y17) (fun a ha => ⟨ha, rfl⟩)
                    case y17 =>
                     refine sc_seq fun K26 hK26 => ?_
                     refine sc_text [3, 3] ?_
                     refine sr_pu rfl (fun _ => rd_seq (ev_t rfl) ev_c) ?_
                     refine sr_pu rfl (fun _ => rd_assign (ev_t rfl)) ?_
                     refine sr_sub [(0, _, _), (3, _, _), (14, _, _), (15, _, _)] (sub_cons rfl (sub_cons rfl (sub_cons rfl (sub_cons rfl (sub_nil _))))) ?_
                     refine sr_nil (hK26 _ _ ?_)
                     refine' sc_or [(0, _, _), (3, _, _)] (sub_cons rfl (sub_cons rfl (sub_cons rfl (sub_nil _)))) rfl (fun hb18 => ?y18) (fun a ha => ⟨ha, rfl⟩)
                     case y18 =>
                      refine sc_seq fun K27 hK27 => ?_
                      refine sc_text [3, 3] ?_
                      refine sr_pu rfl (fun _ => rd_seq (ev_t rfl) ev_c) ?_
                      refine sr_pu rfl (fun _ => rd_assign (ev_t rfl)) ?_
                      refine sr_sub [(0, _, _), (3, _, _), (14, _, _), (15, _, _)] (sub_cons rfl (sub_cons rfl (sub_cons rfl (sub_cons rfl (sub_nil _))))) ?_
                      refine sr_nil (hK27 _ _ ?_)
                      refine' sc_or [(0, _, _), (3, _, _)] (sub_cons rfl (sub_cons rfl (sub_cons rfl (sub_nil _)))) rfl (fun hb19 => ?y19) (fun a ha => ⟨ha, rfl⟩)
                      case y19 =>
                       refine sc_seq fun K28 hK28 => ?_
                       refine sc_text [3, 3] ?_
                       refine sr_pu rfl (fun _ => rd_seq (ev_t rfl) ev_c) ?_
                       refine sr_pu rfl (fun _ => rd_assign (ev_t rfl)) ?_
                       refine sr_sub [(0, _, _), (3, _, _), (14, _, _), (15, _, _)] (sub_cons rfl (sub_cons rfl (sub_cons rfl (sub_cons rfl (sub_nil _))))) ?_
                       refine sr_nil (hK28 _ _ ?_)
                       refine' sc_or [(0, _, _), (3, _, _)] (sub_cons rfl (sub_cons rfl (sub_cons rfl (sub_nil _)))) rfl (fun hb20 => ?y20) (fun a ha => ⟨ha, rfl⟩)
                       case y20 =>
                        refine sc_seq fun K29 hK29 => ?_
                        refine sc_text [3, 3] ?_
                        refine sr_pu rfl (fun _ => rd_seq (ev_t rfl) ev_c) ?_
                        refine sr_pu rfl (fun _ => rd_assign (ev_t rfl)) ?_
                        refine sr_sub [(0, _, _), (3, _, _), (14, _, _), (15, _, _)] (sub_cons rfl (sub_cons rfl (sub_cons rfl (sub_cons rfl (sub_nil _))))) ?_
                        refine sr_nil (hK29 _ _ ?_)
                        refine' sc_or [(0, _, _), (3, _, _)] (sub_cons rfl (sub_cons rfl (sub_cons rfl (sub_nil _)))) rfl (fun hb21 => ?y21) (fun a ha => ⟨ha, rfl⟩)
                        case y21 =>
                         refine sc_seq fun K30 hK30 => ?_
                         refine sc_text [3, 3] ?_
                         refine sr_pu rfl (fun _ => rd_seq (ev_t rfl) ev_c) ?_
                         refine sr_pu rfl (fun _ => rd_assign (ev_t rfl)) ?_
                         refine sr_sub [(0, _, _), (3, _, _), (14, _, _), (15, _, _)] (sub_cons rfl (sub_cons rfl (sub_cons rfl (sub_cons rfl (sub_nil _))))) ?_
                         refine sr_nil (hK30 _ _ ?_)
                         refine' sc_or [(0, _, _), (3, _, _)] (sub_cons rfl (sub_cons rfl (sub_cons rfl (sub_nil _)))) rfl (fun hb22 => ?y22) (fun a ha => ⟨ha, rfl⟩)
                         case y22 =>
                          refine sc_seq fun K31 hK31 => ?_
                          refine sc_text [3, 3] ?_
                          refine sr_pu rfl (fun _ => rd_seq (ev_t rfl) ev_c) ?_
                          refine sr_pu rfl (fun _ => rd_assign (ev_t rfl)) ?_
                          refine sr_sub [(0, _, _), (3, _, _), (14, _, _), (15, _, _)] (sub_cons rfl (sub_cons rfl (sub_cons rfl (sub_cons rfl (sub_nil _))))) ?_
                          refine sr_nil (hK31 _ _ ?_)
                          refine' sc_or [(0, _, _), (3, _, _)] (sub_cons rfl (sub_cons rfl (sub_cons rfl (sub_nil _)))) rfl (fun hb23 => ?y23) (fun a ha => ⟨ha, rfl⟩)
                          case y23 =>
                           refine sc_seq fun K32 hK32 => ?_
                           refine sc_text [3, 3] ?_
                           refine sr_pu rfl (fun _ => rd_seq (ev_t rfl) ev_c) ?_
                           refine sr_pu rfl (fun _ => rd_assign (ev_t rfl)) ?_
                           refine sr_sub [(0, _, _), (3, _, _), (14, _, _), (15, _, _)] (sub_cons rfl (sub_cons rfl (sub_cons rfl (sub_cons rfl (sub_nil _))))) ?_
                           refine sr_nil (hK32 _ _ ?_)
                           refine' sc_or [(0, _, _), (3, _, _)] (sub_cons rfl (sub_cons rfl (sub_cons rfl (sub_nil _)))) rfl (fun hb24 => ?y24) (fun a ha => ⟨ha, rfl⟩)
                           case y24 =>
                            refine sc_seq fun K33 hK33 => ?_
                            refine sc_text [3, 3] ?_
                            refine sr_pu rfl (fun _ => rd_seq (ev_t rfl) ev_c) ?_
                            refine sr_pu rfl (fun _ => rd_assign (ev_t rfl)) ?_
                            refine sr_sub [(0, _, _), (3, _, _), (14, _, _), (15, _, _)] (sub_cons rfl (sub_cons rfl (sub_cons rfl (sub_cons rfl (sub_nil _))))) ?_
                            refine sr_nil (hK33 _ _ ?_)
                            refine' sc_or [(0, _, _), (3, _, _)] (sub_cons rfl (sub_cons rfl (sub_cons rfl (sub_nil _)))) rfl (fun hb25 => ?y25) (fun a ha => ⟨ha, rfl⟩)
                            case y25 =>
                             refine sc_seq fun K34 hK34 => ?_
                             refine sc_text [3, 3] ?_
                             refine sr_pu rfl (fun _ => rd_seq (ev_t rfl) ev_c) ?_
                             refine sr_pu rfl (fun _ => rd_assign (ev_t rfl)) ?_
                             refine sr_sub [(0, _, _), (3, _, _), (14, _, _), (15, _, _)] (sub_cons rfl (sub_cons rfl (sub_cons rfl (sub_cons rfl (sub_nil _))))) ?_
                             refine sr_nil (hK34 _ _ ?_)
                             refine' sc_or [(0, _, _), (3, _, _)] (sub_cons rfl (sub_cons rfl (sub_cons rfl (sub_nil _)))) rfl (fun hb26 => ?y26) (fun a ha => ⟨ha, rfl⟩)
                             case y26 =>
                              refine sc_seq fun K35 hK35 => ?_
                              refine sc_text [3, 3] ?_
                              refine sr_pu rfl (fun _ => rd_seq (ev_t rfl) ev_c) ?_
                              refine sr_pu rfl (fun _ => rd_assign (ev_t rfl)) ?_
                              refine sr_sub [(0, _, _), (3, _, _), (14, _, _), (15, _, _)] (sub_cons rfl (sub_cons rfl (sub_cons rfl (sub_cons rfl (sub_nil _))))) ?_
                              refine sr_nil (hK35 _ _ ?_)
                              refine' sc_or [(0, _, _), (3, _, _)] (sub_cons rfl (sub_cons rfl (sub_cons rfl (sub_nil _)))) rfl (fun hb27 => ?y27) (fun a ha => ⟨ha, rfl⟩)
                              case y27 =>
                               refine sc_seq fun K36 hK36 => ?_
                               refine sc_text [3, 3] ?_
                               refine sr_pu rfl (fun _ => rd_seq (ev_t rfl) ev_c) ?_
                               refine sr_pu rfl (fun _ => rd_assign (ev_t rfl)) ?_
                               refine sr_sub [(0, _, _), (3, _, _), (14, _, _), (15, _, _)] (sub_cons rfl (sub_cons rfl (sub_cons rfl (sub_cons rfl (sub_nil _))))) ?_
                               refine sr_nil (hK36 _ _ ?_)
                               refine' sc_or [(0, _, _), (3, _, _)] (sub_cons rfl (sub_cons rfl (sub_cons rfl (sub_nil _)))) rfl (fun hb28 => ?y28) (fun a ha => ⟨ha, rfl⟩)
                               case y28 =>
                                refine sc_text [3, 3] ?_
                                refine sr_pu rfl (fun _ => rd_seq (ev_t rfl) ev_c) ?_
                                refine sr_pu rfl (fun _ => rd_assign (ev_t rfl)) ?_
                                refine sr_sub [(15, _, _), (0, _, _), (3, _, _)] (sub_cons rfl (sub_cons rfl (sub_cons rfl (sub_nil _)))) ?_
                                exact sr_nil (fun a ha => ⟨ha, rfl⟩)
      case n3 =>
       refine sc_cond (ev_t rfl) (fun h29 => ?_) (fun h29 => ?_)
       · have hin : inB opsL (l.take n) = true := by
           simp only [inB, opsL, List.any_cons, List.any_nil, Bool.or_false]; exact h29
         have hk : (decide (n ≤ l.length) && inB opsL (l.take n)) = true := by rw [decide_eq_true hlen, hin]; rfl
         have hN : opLenR l = n := by
           unfold opLenR
           by_cases e : n = 2
           · subst e; rw [hk]; rfl
           · have e1 : n = 1 := by omega
             have e2 := hm 2 (by omega) (by omega)
             subst e1; rw [hk, e2]; rfl
         refine sc_seq fun K37 hK37 => ?_
         refine sc_text [3, 3, 3, 3] ?_
         refine sr_pu rfl (fun _ => rd_move (ev_t rfl)) ?_
         refine sr_pu rfl (fun _ => rd_move (ev_t rfl)) ?_
         refine sr_pu rfl (fun _ => rd_ssl_to str_string (ev_t rfl) (ev_t rfl) (fun _ => by omega)) ?_
         refine sr_pu rfl (fun _ => rd_assign (ev_t rfl)) ?_
         refine sr_sub [(0, _, _), (2, _, _), (3, _, _)] (sub_cons rfl (sub_cons rfl (sub_cons rfl (sub_nil _)))) ?_
         refine sr_nil (hK37 _ _ ?_)
         refine sc_ret (t_ret1 rfl rfl ?_)
         refine ⟨?_, g⟩; rw [hN]; rfl
       · have hk : (decide (n ≤ l.length) && inB opsL (l.take n)) = false := by
           have hin : inB opsL (l.take n) = false := by simp only [inB, opsL, List.any_cons, List.any_nil, Bool.or_false]; exact h29
           rw [hin, Bool.and_false]
         refine sc_skip (hK6 _ _ ?_)
         refine sc_sub [(0, _, _), (3, _, _)] (sub_cons rfl (sub_cons rfl (sub_nil _))) ?_
         refine sc_text [3, 3, 3] ?_
         refine sr_pu rfl (fun _ => rd_move (ev_t rfl)) ?_
         refine sr_pu rfl (fun _ => rd_subr (r := ((n - 1 : Nat) : Int)) (ev_t rfl) ev_c (fun hc => (by rw [i64_id ⟨by omega, by omega⟩]; omega))) ?_
         refine sr_pu rfl (fun _ => rd_assign (ev_t rfl)) ?_
         refine sr_sub [(0, _, _), (3, _, _)] (sub_cons rfl (sub_cons rfl (sub_nil _))) ?_
         refine sr_nil (fun a ha => ?_)
         refine ⟨n - 1, ha, ⟨by omega, ?_, g⟩, by omega⟩
         intro m h1 h2
         by_cases e : m = n
         · rw [e]; exact hk
         · exact hm m (by omega) h2
  · have hn0 : n = 0 := by simp only [decide_eq_false_iff_not] at h1; omega
    have e1 := hm 1 (by omega) (by omega)
    have e2 := hm 2 (by omega) (by omega)
    have hN : opLenR l = 0 := by unfold opLenR; rw [e1, e2]; rfl
    refine sc_exit rfl (hK2 _ _ ?_)
    refine sc_sub [] (sub_nil _) ?_
    refine sc_seq fun K38 hK38 => ?_
    refine sc_text [3] ?_
    refine sr_pu rfl (fun _ => rd_assign ev_c) ?_
    refine sr_nil (hK38 _ _ ?_)
    refine sc_ret (t_ret1 rfl rfl ?_)
    refine ⟨?_, g⟩; rw [hN]; rfl
theorem ends_ok (t : Tok) (w : World) : Ret PP fn_r02_ends #[.agg (tokCells t).toArray] w fun v w' => v = .bool (endsT t) ∧ G w w' := by
  have g := G.refl w
  refine ret_of_sc (m := 25) func_r02_ends rfl rfl [(0, True, _)] (sub_cons rfl (sub_nil _)) ?_
  refine sc_seq fun K1 hK1 => ?_
  refine sc_text [1, 3] ?_
  refine sr_box rfl (ev_t rfl) rfl ?_
  intro b1 w1 N1
  have l1 := N1.ge g
  have g := g.trans (N1.g)
  have B1 := N1.blk
  refine sr_pu rfl (fun _ => rd_assign ev_c) ?_
  refine sr_sub [(1, _, _), (2, _, _)] (sub_cons rfl (sub_cons rfl (sub_nil _))) ?_
  refine sr_nil (hK1 _ _ ?_)
  refine sc_seq fun K2 hK2 => ?_
  refine sc_seq fun K3 hK3 => ?_
  refine sc_text [3, 0] ?_
  refine sr_pu rfl (fun _ => rd_field fo_api_Token_0 (ev_t rfl)) ?_
  refine sr_rd rfl (rd_load one_int (ev_t rfl) (fun _ => by first | assumption | exact B1.at_ rfl | exact B1.row)) ?_
  refine sr_sub [(1, _, _), (2, _, _), (4, _, _)] (sub_cons rfl (sub_cons rfl (sub_cons rfl (sub_nil _)))) ?_
  refine sr_nil (hK3 _ _ ?_)
  refine sc_block ?_
  refine sc_seq fun K4 hK4 => ?_
  refine sc_seq fun K5 hK5 => ?_
  refine sc_text [3, 3] ?_
  refine sr_pu rfl (fun _ => rd_eq (ev_t rfl) ev_c) ?_
  refine sr_pu rfl (fun _ => rd_assign (ev_t rfl)) ?_
  refine sr_sub [(1, _, _), (2, _, _), (4, _, _), (5, _, _)] (sub_cons rfl (sub_cons rfl (sub_cons rfl (sub_cons rfl (sub_nil _))))) ?_
  refine sr_nil (hK5 _ _ ?_)
  refine' sc_or [(1, _, _), (2, _, _)] (sub_cons rfl (sub_cons rfl (sub_cons rfl (sub_nil _)))) rfl (fun hb1 => ?y1) (hK4 _ _ ?n1)
  case y1 =>
   refine sc_text [3, 3] ?_
   refine sr_pu rfl (fun _ => rd_eq (ev_t rfl) ev_c) ?_
   refine sr_pu rfl (fun _ => rd_assign (ev_t rfl)) ?_
   refine sr_sub [(5, _, _), (1, _, _), (2, _, _)] (sub_cons rfl (sub_cons rfl (sub_cons rfl (sub_nil _)))) ?_
   exact sr_nil (fun a ha => ⟨ha, rfl⟩)
  case n1 =>
   refine sc_cond (ev_t rfl) (fun h2 => ?_) (fun h2 => ?_)
   · (try simp only [bsimp] at h2)
     refine sc_seq fun K6 hK6 => ?_
     refine sc_text [3] ?_
     refine sr_pu rfl (fun _ => rd_assign ev_c) ?_
     refine sr_sub [(1, _, _), (2, _, _)] (sub_cons rfl (sub_cons rfl (sub_nil _))) ?_
     refine sr_nil (hK6 _ _ ?_)
     refine sc_ret (t_ret1 rfl rfl ?_)
     refine ⟨?_, g⟩; rw [endsT, h2]; rfl
   · (try simp only [bsimp] at h2)
     refine sc_skip (hK2 _ _ ?_)
     refine sc_sub [(1, _, _), (2, _, _)] (sub_cons rfl (sub_cons rfl (sub_nil _))) ?_
     refine sc_seq fun K7 hK7 => ?_
     refine sc_seq fun K8 hK8 => ?_
     refine sc_text [3, 0] ?_
     refine sr_pu rfl (fun _ => rd_field fo_api_Token_1 (ev_t rfl)) ?_
     refine sr_rd rfl (rd_load one_string (ev_t rfl) (fun _ => by first | assumption | exact B1.at_ rfl | exact B1.row)) ?_
     refine sr_nil (hK8 _ _ ?_)
     refine sc_block ?_
     refine sc_seq fun K9 hK9 => ?_
     refine sc_seq fun K10 hK10 => ?_
     refine sc_text [3, 3] ?_
     refine sr_pu rfl (fun _ => rd_seq (ev_t rfl) ev_c) ?_
     refine sr_pu rfl (fun _ => rd_assign (ev_t rfl)) ?_
     refine sr_nil (hK10 _ _ ?_)
     refine sc_sub [(1, _, _), (2, _, _), (8, _, _), (9, _, _), (10, _, _), (11, _, _)] (sub_cons rfl (sub_cons rfl (sub_cons rfl (sub_cons rfl (sub_cons rfl (sub_cons rfl (sub_nil _))))))) ?_
     refine' sc_or [(1, _, _), (2, _, _), (8, _, _), (9, _, _), (11, _, _)] (sub_cons rfl (sub_cons rfl (sub_cons rfl (sub_cons rfl (sub_cons rfl (sub_cons rfl (sub_nil _))))))) rfl (fun hb3 => ?y3) (hK9 _ _ ?n3)
     case y3 =>
      refine sc_seq fun K11 hK11 => ?_
      refine sc_text [3, 3] ?_
      refine sr_pu rfl (fun _ => rd_seq (ev_t rfl) ev_c) ?_
      refine sr_pu rfl (fun _ => rd_assign (ev_t rfl)) ?_
      refine sr_sub [(1, _, _), (2, _, _), (8, _, _), (9, _, _), (10, _, _), (11, _, _)] (sub_cons rfl (sub_cons rfl (sub_cons rfl (sub_cons rfl (sub_cons rfl (sub_cons rfl (sub_nil _))))))) ?_
      refine sr_nil (hK11 _ _ ?_)
      refine' sc_or [(1, _, _), (2, _, _), (8, _, _), (9, _, _), (11, _, _)] (sub_cons rfl (sub_cons rfl (sub_cons rfl (sub_cons rfl (sub_cons rfl (sub_cons rfl (sub_nil _))))))) rfl (fun hb4 => ?y4) (fun a ha => ⟨ha, rfl⟩)
      case y4 =>
       refine sc_seq fun K12 hK12 => ?_
       refine sc_text [3, 3] ?_
       refine sr_pu rfl (fun _ => rd_seq (ev_t rfl) ev_c) ?_
       refine sr_pu rfl (fun _ => rd_assign (ev_t rfl)) ?_
       refine sr_sub [(1, _, _), (2, _, _), (8, _, _), (9, _, _), (10, _, _), (11, _, _)] (sub_cons rfl (sub_cons rfl (sub_cons rfl (sub_cons rfl (sub_cons rfl (sub_cons rfl (sub_nil _))))))) ?_
       refine sr_nil (hK12 _ _ ?_)
       refine' sc_or [(1, _, _), (2, _, _), (8, _, _), (9, _, _), (11, _, _)] (sub_cons rfl (sub_cons rfl (sub_cons rfl (sub_cons rfl (sub_cons rfl (sub_cons rfl (sub_nil _))))))) rfl (fun hb5 => ?y5) (fun a ha => ⟨ha, rfl⟩)
       case y5 =>
        refine sc_seq fun K13 hK13 => ?_
        refine sc_text [3, 3] ?_
        refine sr_pu rfl (fun _ => rd_seq (ev_t rfl) ev_c) ?_
        refine sr_pu rfl (fun _ => rd_assign (ev_t rfl)) ?_
        refine sr_sub [(1, _, _), (2, _, _), (8, _, _), (9, _, _), (10, _, _), (11, _, _)] (sub_cons rfl (sub_cons rfl (sub_cons rfl (sub_cons rfl (sub_cons rfl (sub_cons rfl (sub_nil _))))))) ?_
        refine sr_nil (hK13 _ _ ?_)
        refine' sc_or [(1, _, _), (2, _, _), (8, _, _), (9, _, _), (11, _, _)] (sub_cons rfl (sub_cons rfl (sub_cons rfl (sub_cons rfl (sub_cons rfl (sub_cons rfl (sub_nil _))))))) rfl (fun hb6 => ?y6) (fun a ha => ⟨ha, rfl⟩)
        case y6 =>
         refine sc_seq fun K14 hK14 => ?_
         refine sc_text [3, 3] ?_
         refine sr_pu rfl (fun _ => rd_seq (ev_t rfl) ev_c) ?_
         refine sr_pu rfl (fun _ => rd_assign (ev_t rfl)) ?_
         refine sr_sub [(1, _, _), (2, _, _), (8, _, _), (9, _, _), (10, _, _), (11, _, _)] (sub_cons rfl (sub_cons rfl (sub_cons rfl (sub_cons rfl (sub_cons rfl (sub_cons rfl (sub_nil _))))))) ?_
         refine sr_nil (hK14 _ _ ?_)
         refine' sc_or [(1, _, _), (2, _, _), (8, _, _), (9, _, _), (11, _, _)] (sub_cons rfl (sub_cons rfl (sub_cons rfl (sub_cons rfl (sub_cons rfl (sub_cons rfl (sub_nil _))))))) rfl (fun hb7 => ?y7) (fun a ha => ⟨ha, rfl⟩)
         case y7 =>
          refine sc_seq fun K15 hK15 => ?_
          refine sc_text [3, 3] ?_
          refine sr_pu rfl (fun _ => rd_seq (ev_t rfl) ev_c) ?_
          refine sr_pu rfl (fun _ => rd_assign (ev_t rfl)) ?_
          refine sr_sub [(1, _, _), (2, _, _), (8, _, _), (9, _, _), (10, _, _), (11, _, _)] (sub_cons rfl (sub_cons rfl (sub_cons rfl (sub_cons rfl (sub_cons rfl (sub_cons rfl (sub_nil _))))))) ?_
          refine sr_nil (hK15 _ _ ?_)
          refine' sc_or [(1, _, _), (2, _, _), (8, _, _), (9, _, _), (11, _, _)] (sub_cons rfl (sub_cons rfl (sub_cons rfl (sub_cons rfl (sub_cons rfl (sub_cons rfl (sub_nil _))))))) rfl (fun hb8 => ?y8) (fun a ha => ⟨ha, rfl⟩)
          case y8 =>
           refine sc_seq fun K16 hK16 => ?_
           refine sc_text [3, 3] ?_
           refine sr_pu rfl (fun _ => rd_seq (ev_t rfl) ev_c) ?_
           refine sr_pu rfl (fun _ => rd_assign (ev_t rfl)) ?_
           refine sr_sub [(1, _, _), (2, _, _), (8, _, _), (9, _, _), (10, _, _), (11, _, _)] (sub_cons rfl (sub_cons rfl (sub_cons rfl (sub_cons rfl (sub_cons rfl (sub_cons rfl (sub_nil _))))))) ?_
           refine sr_nil (hK16 _ _ ?_)
           refine' sc_or [(1, _, _), (2, _, _), (8, _, _), (9, _, _), (11, _, _)] (sub_cons rfl (sub_cons rfl (sub_cons rfl (sub_cons rfl (sub_cons rfl (sub_cons rfl (sub_nil _))))))) rfl (fun hb9 => ?y9) (fun a ha => ⟨ha, rfl⟩)
           case y9 =>
            refine sc_seq fun K17 hK17 => ?_
            refine sc_text [3, 3] ?_
            refine sr_pu rfl (fun _ => rd_seq (ev_t rfl) ev_c) ?_
            refine sr_pu rfl (fun _ => rd_assign (ev_t rfl)) ?_
            refine sr_sub [(1, _, _), (2, _, _), (8, _, _), (9, _, _), (10, _, _), (11, _, _)] (sub_cons rfl (sub_cons rfl (sub_cons rfl (sub_cons rfl (sub_cons rfl (sub_cons rfl (sub_nil _))))))) ?_
            refine sr_nil (hK17 _ _ ?_)
            refine' sc_or [(1, _, _), (2, _, _), (8, _, _), (9, _, _), (11, _, _)] (sub_cons rfl (sub_cons rfl (sub_cons rfl (sub_cons rfl (sub_cons rfl (sub_cons rfl (sub_nil _))))))) rfl (fun hb10 => ?y10) (fun a ha => ⟨ha, rfl⟩)
            case y10 =>
             refine sc_seq fun K18 hK18 => ?_
             refine sc_text [3, 3] ?_
             refine sr_pu rfl (fun _ => rd_seq (ev_t rfl) ev_c) ?_
             refine sr_pu rfl (fun _ => rd_assign (ev_t rfl)) ?_
             refine sr_sub [(1, _, _), (2, _, _), (8, _, _), (9, _, _), (10, _, _), (11, _, _)] (sub_cons rfl (sub_cons rfl (sub_cons rfl (sub_cons rfl (sub_cons rfl (sub_cons rfl (sub_nil _))))))) ?_
             refine sr_nil (hK18 _ _ ?_)
             refine' sc_or [(1, _, _), (2, _, _), (8, _, _), (9, _, _), (11, _, _)] (sub_cons rfl (sub_cons rfl (sub_cons rfl (sub_cons rfl (sub_cons rfl (sub_cons rfl (sub_nil _))))))) rfl (fun hb11 => ?y11) (fun a ha => ⟨ha, rfl⟩)
             case y11 =>
              refine sc_seq fun K19 hK19 => ?_
              refine sc_text [3, 3] ?_
              refine sr_pu rfl (fun _ => rd_seq (ev_t rfl) ev_c) ?_
              refine sr_pu rfl (fun _ => rd_assign (ev_t rfl)) ?_
              refine sr_sub [(1, _, _), (2, _, _), (8, _, _), (9, _, _), (10, _, _), (11, _, _)] (sub_cons rfl (sub_cons rfl (sub_cons rfl (sub_cons rfl (sub_cons rfl (sub_cons rfl (sub_nil _))))))) ?_
              refine sr_nil (hK19 _ _ ?_)
              refine' sc_or [(1, _, _), (2, _, _), (8, _, _), (9, _, _), (11, _, _)] (sub_cons rfl (sub_cons rfl (sub_cons rfl (sub_cons rfl (sub_cons rfl (sub_cons rfl (sub_nil _))))))) rfl (fun hb12 => ?y12) (fun a ha => ⟨ha, rfl⟩)
              case y12 =>
               refine sc_seq fun K20 hK20 => ?_
               refine sc_text [3, 3] ?_
               refine sr_pu rfl (fun _ => rd_seq (ev_t rfl) ev_c) ?_
               refine sr_pu rfl (fun _ => rd_assign (ev_t rfl)) ?_
               refine sr_sub [(1, _, _), (2, _, _), (8, _, _), (9, _, _), (10, _, _), (11, _, _)] (sub_cons rfl (sub_cons rfl (sub_cons rfl (sub_cons rfl (sub_cons rfl (sub_cons rfl (sub_nil _))))))) ?_
               refine sr_nil (hK20 _ _ ?_)
               refine' sc_or [(1, _, _), (2, _, _), (8, _, _), (9, _, _), (11, _, _)] (sub_cons rfl (sub_cons rfl (sub_cons rfl (sub_cons rfl (sub_cons rfl (sub_cons rfl (sub_nil _))))))) rfl (fun hb13 => ?y13) (fun a ha => ⟨ha, rfl⟩)
               case y13 =>
                refine sc_seq fun K21 hK21 => ?_
                refine sc_text [3, 3] ?_
                refine sr_pu rfl (fun _ => rd_seq (ev_t rfl) ev_c) ?_
                refine sr_pu rfl (fun _ => rd_assign (ev_t rfl)) ?_
                refine sr_sub [(1, _, _), (2, _, _), (8, _, _), (9, _, _), (10, _, _), (11, _, _)] (sub_cons rfl (sub_cons rfl (sub_cons rfl (sub_cons rfl (sub_cons rfl (sub_cons rfl (sub_nil _))))))) ?_
                refine sr_nil (hK21 _ _ ?_)
                refine' sc_or [(1, _, _), (2, _, _), (8, _, _), (9, _, _), (11, _, _)] (sub_cons rfl (sub_cons rfl (sub_cons rfl (sub_cons rfl (sub_cons rfl (sub_cons rfl (sub_nil _))))))) rfl (fun hb14 => ?y14) (fun a ha => ⟨ha, rfl⟩)
                case y14 =>
                 refine sc_seq fun K22 hK22 => ?_
                 refine sc_text [3, 3] ?_
                 refine sr_pu rfl (fun _ => rd_seq (ev_t rfl) ev_c) ?_
                 refine sr_pu rfl (fun _ => rd_assign (ev_t rfl)) ?_
                 refine sr_sub [(1, _, _), (2, _, _), (8, _, _), (9, _, _), (10, _, _), (11, _, _)] (sub_cons rfl (sub_cons rfl (sub_cons rfl (sub_cons rfl (sub_cons rfl (sub_cons rfl (sub_nil _))))))) ?_
                 refine sr_nil (hK22 _ _ ?_)
                 refine' sc_or [(1, _, _), (2, _, _), (8, _, _), (9, _, _), (11, _, _)] (sub_cons rfl (sub_cons rfl (sub_cons rfl (sub_cons rfl (sub_cons rfl (sub_cons rfl (sub_nil _))))))) rfl (fun hb15 => ?y15) (fun a ha => ⟨ha, rfl⟩)
                 case y15 =>
                  refine sc_text [3, 3] ?_
                  refine sr_pu rfl (fun _ => rd_seq (ev_t rfl) ev_c) ?_
                  refine sr_pu rfl (fun _ => rd_assign (ev_t rfl)) ?_
                  refine sr_sub [(10, _, _), (1, _, _), (2, _, _), (8, _, _), (9, _, _), (11, _, _)] (sub_cons rfl (sub_cons rfl (sub_cons rfl (sub_cons rfl (sub_cons rfl (sub_cons rfl (sub_nil _))))))) ?_
                  exact sr_nil (fun a ha => ⟨ha, rfl⟩)
     case n3 =>
      refine sc_cond (ev_t rfl) (fun h16 => ?_) (fun h16 => ?_)
      · (try simp only [bsimp] at h16)
        refine sc_seq fun K23 hK23 => ?_
        refine sc_text [3] ?_
        refine sr_pu rfl (fun _ => rd_assign ev_c) ?_
        refine sr_nil (hK23 _ _ ?_)
        refine sc_sub [(1, _, _), (2, _, _), (8, _, _), (9, _, _), (10, _, _), (11, _, _)] (sub_cons rfl (sub_cons rfl (sub_cons rfl (sub_cons rfl (sub_cons rfl (sub_cons rfl (sub_nil _))))))) ?_
        refine sc_ret (t_ret1 rfl rfl ?_)
        refine ⟨?_, g⟩; rw [endsT, h2]; simp only [inB, endw, List.any_cons, List.any_nil, Bool.or_false, Bool.false_or]; rw [h16]
      · (try simp only [bsimp] at h16)
        refine sc_skip (hK7 _ _ ?_)
        refine sc_sub [(1, _, _), (2, _, _), (8, _, _), (9, _, _), (10, _, _), (11, _, _)] (sub_cons rfl (sub_cons rfl (sub_cons rfl (sub_cons rfl (sub_cons rfl (sub_cons rfl (sub_nil _))))))) ?_
        refine sc_seq fun K24 hK24 => ?_
        refine sc_text [3] ?_
        refine sr_pu rfl (fun _ => rd_assign ev_c) ?_
        refine sr_nil (hK24 _ _ ?_)
        refine sc_ret (t_ret1 rfl rfl ?_)
        refine ⟨?_, g⟩; rw [endsT, h2]; simp only [inB, endw, List.any_cons, List.any_nil, Bool.or_false, Bool.false_or]; rw [h16]
theorem run_more {q : Int → Bool} {s : List UInt8} {p n : Nat} (h : (decide (((p + n : Nat) : Int) < s.length) && q (cAt s (p + n))) = true) (he : runN q (s.drop p) = n + runN q (s.drop (p + n))) : p + (n + 1) ≤ s.length ∧ runN q (s.drop p) = (n + 1) + runN q (s.drop (p + (n + 1))) := by
  simp only [Bool.and_eq_true, decide_eq_true_eq] at h
  have h1 : p + n < s.length := by omega
  have := runN_step (q := q) h1 h.2
  exact ⟨by omega, by rw [he, this, Nat.add_assoc p n 1]; omega⟩
theorem run_done {q : Int → Bool} {s : List UInt8} {p n : Nat} (h : (decide (((p + n : Nat) : Int) < s.length) && q (cAt s (p + n))) = false) (he : runN q (s.drop p) = n + runN q (s.drop (p + n))) : n = runN q (s.drop p) := by
  have : runN q (s.drop (p + n)) = 0 := runN_stop fun hk => by
    rw [decide_eq_true (by omega : ((p + n : Nat) : Int) < s.length), Bool.true_and] at h
    exact h
  omega
/-- The reference's token at a place. -/
def nextR (s : List UInt8) (p : Nat) : Tok × Int :=
  bif letterB (cAt s p) then (⟨wordK ((s.drop p).take (runN isAlnum (s.drop p))), (s.drop p).take (runN isAlnum (s.drop p)), p⟩, bif decide ((32 : Int) < runN isAlnum (s.drop p)) then 3 else 0)
  else bif digitB (cAt s p) then bif (!intOk ((s.drop p).take (runN digitB (s.drop p)))) || (decide ((p : Int) + runN digitB (s.drop p) < s.length) && letterB (cAt s (p + runN digitB (s.drop p)))) then (⟨0, [], 0⟩, 4)
    else (⟨2, (s.drop p).take (runN digitB (s.drop p)), p⟩, 0)
  else bif (decide (cAt s p = 47) && decide ((p : Int) + 1 < s.length)) && decide (cAt s (p + 1) = 47) then (⟨5, (s.drop p).take (runN isNotLf (s.drop p)), p⟩, 0)
  else bif decide ((s.drop p).take (opLenR (s.drop p)) = []) then (⟨0, [], 0⟩, 4)
  else (⟨4, (s.drop p).take (opLenR (s.drop p)), p⟩, 0)
theorem rnext_ok (s : List UInt8) (p : Nat) (hp : p < s.length) (k4 : s.length ≤ 20000) (w : World) : Ret PP fn_r02_next #[Str s, .int .i64 p] w fun v w' => v = .tuple #[.agg (tokCells (nextR s p).1).toArray, .int .i64 (nextR s p).2] ∧ G w w' := by
  have g := G.refl w
  refine ret_of_sc (m := 144) func_r02_next rfl rfl [(0, True, _), (1, True, _)] (sub_cons rfl (sub_cons rfl (sub_nil _))) ?_
  refine sc_seq fun K1 hK1 => ?_
  refine sc_text [1, 3] ?_
  refine sr_alloc rfl ze_api_Token rfl ?_
  intro b4 w4 N4
  have l4 := N4.ge g
  have g := g.trans (N4.g)
  have B4 := N4.blk
  refine sr_pu rfl (fun _ => rd_assign ev_c) ?_
  refine sr_nil (hK1 _ _ ?_)
  refine sc_seq fun K2 hK2 => ?_
  refine sc_text [3, 3] ?_
  refine sr_pu rfl (fun _ => rd_move (ev_t rfl)) ?_
  refine sr_pu rfl (fun _ => rd_assign (ev_t rfl)) ?_
  refine sr_sub [(0, _, _), (1, _, _), (4, _, _), (5, _, _), (6, _, _)] (sub_cons rfl (sub_cons rfl (sub_cons rfl (sub_cons rfl (sub_cons rfl (sub_nil _)))))) ?_
  refine sr_nil (hK2 _ _ ?_)
  refine sc_seq fun K3 hK3 => ?_
  refine sc_block ?_
  refine sc_seq fun K4 hK4 => ?_
  refine sc_text [3, 3, 3, 1, 3] ?_
  refine sr_pu rfl (fun _ => rd_move (ev_t rfl)) ?_
  refine sr_pu rfl (fun _ => rd_move (ev_t rfl)) ?_
  refine sr_pu rfl (fun _ => rd_sidx str_string (ev_t rfl) (ev_t rfl) (fun _ => by omega)) ?_
  refine sr_pure rfl (rc_call go_r02_letter ev_f (args_cons (ev_t rfl) (args_nil)) rfl) (rletter_ok _ _) (fun w16 g16 => ?_)
  have g := g.trans (g16)
  have B4 := B4.grow (g16)
  refine sr_pu rfl (fun _ => rd_assign (ev_t rfl)) ?_
  refine sr_sub [(0, _, _), (1, _, _), (4, _, _), (5, _, _), (6, _, _), (12, _, _)] (sub_cons rfl (sub_cons rfl (sub_cons rfl (sub_cons rfl (sub_cons rfl (sub_cons rfl (sub_nil _))))))) ?_
  refine sr_nil (hK4 _ _ ?_)
  refine sc_cond (ev_t rfl) (fun h1 => ?_) (fun h1 => ?_)
  · skip
    replace h1 : letterB (cAt s p) = true := h1
    refine sc_seq fun K5 hK5 => ?_
    refine sc_block ?_
    refine sc_loop (fun (n : Nat) u => p + n ≤ s.length ∧ runN isAlnum (s.drop p) = n + runN isAlnum (s.drop (p + n)) ∧ G w u ∧ Blk u b4 33 [.int .i64 0, .string ⟨#[]⟩, .int .i64 0]) (fun n => [(0, True, Str s), (1, True, .int .i64 p), (4, True, .pointer (some ⟨b4, 0, none⟩)), (6, True, .int .i64 (p + n : Nat))]) (fun n => s.length - n) 0 ⟨by omega, by simp, g, B4⟩ (sub_cons rfl (sub_cons rfl (sub_cons rfl (sub_cons rfl (sub_nil _))))) ?_
    rintro n u ⟨hn, he, g, B4⟩
    refine sc_seq fun K6 hK6 => ?_
    refine sc_seq fun K7 hK7 => ?_
    refine sc_text [3, 3, 3, 3, 3, 3, 3, 3, 1, 3, 3, 3, 3, 1, 3, 3] ?_
    refine sr_pu rfl (fun _ => rd_move (ev_t rfl)) ?_
    refine sr_pu rfl (fun _ => rd_move (ev_t rfl)) ?_
    refine sr_pu rfl (fun _ => rd_slen str_string (ev_t rfl)) ?_
    refine sr_pu rfl (fun _ => rd_lt (ev_t rfl) (ev_t rfl)) ?_
    refine sr_pu rfl (fun _ => rd_move (ev_t rfl)) ?_
    refine sr_pug rfl rfl rfl (fun _ => rd_move (ev_t rfl)) ?_
    refine sr_pug rfl rfl rfl (fun _ => rd_move (ev_t rfl)) ?_
    refine sr_pug rfl rfl rfl (fun _ => rd_sidx str_string (ev_u rfl id) (ev_u rfl id) (fun hc => by have := of_decide_eq_true hc.2; omega)) ?_
    refine sr_pureg rfl rfl rfl (fun _ => (rc_call go_r02_letter ev_f (args_cons (ev_u rfl id) (args_nil)) rfl)) (fun hc => rletter_ok _ _) (fun w25 g25 => ?_)
    have g := g.trans (g25)
    have B4 := B4.grow (g25)
    refine sr_pug rfl rfl rfl (fun _ => rd_move (ev_u rfl id)) ?_
    refine sr_pug rfl rfl rfl (fun _ => rd_move (ev_t rfl)) ?_
    refine sr_pug rfl rfl rfl (fun _ => rd_move (ev_t rfl)) ?_
    refine sr_pug rfl rfl rfl (fun _ => rd_sidx str_string (ev_u rfl id) (ev_u rfl id) (fun hc => by have := of_decide_eq_true hc.1.2; omega)) ?_
    refine sr_pureg rfl rfl rfl (fun _ => (rc_call go_r02_digit ev_f (args_cons (ev_u rfl id) (args_nil)) rfl)) (fun hc => rdigit_ok _ _) (fun w30 g30 => ?_)
    have g := g.trans (g30)
    have B4 := B4.grow (g30)
    refine sr_pug rfl rfl rfl (fun _ => rd_pick_or (ev_u rfl id) (ev_u rfl id)) ?_
    refine sr_pu rfl (fun _ => rd_pick_and (ev_t rfl) (ev_u rfl id)) ?_
    refine sr_sub [(0, _, _), (1, _, _), (4, _, _), (6, _, _), (32, _, _)] (sub_cons rfl (sub_cons rfl (sub_cons rfl (sub_cons rfl (sub_cons rfl (sub_nil _)))))) ?_
    refine sr_nil (hK7 _ _ ?_)
    refine sc_cond (ev_t rfl) (fun h2 => ?_) (fun h2 => ?_)
    · skip
      have hm := run_more (q := isAlnum) h2 he
      refine sc_skip (hK6 _ _ ?_)
      refine sc_sub [(0, _, _), (1, _, _), (4, _, _), (6, _, _)] (sub_cons rfl (sub_cons rfl (sub_cons rfl (sub_cons rfl (sub_nil _))))) ?_
      refine sc_block ?_
      refine sc_text [3, 3, 3] ?_
      refine sr_pu rfl (fun _ => rd_move (ev_t rfl)) ?_
      refine sr_pu rfl (fun _ => rd_add (ev_t rfl) ev_c (fun _ => by omega)) ?_
      refine sr_pu rfl (fun _ => rd_assign (ev_t rfl)) ?_
      refine sr_sub [(0, _, _), (1, _, _), (4, _, _), (6, _, _)] (sub_cons rfl (sub_cons rfl (sub_cons rfl (sub_cons rfl (sub_nil _))))) ?_
      refine sr_nil (fun a ha => ?_)
      exact ⟨n + 1, ha, ⟨hm.1, hm.2, g, B4⟩, by omega⟩
    · skip
      obtain rfl := run_done (q := isAlnum) h2 he
      have e : (((p + runN isAlnum (s.drop p) : Nat) : Int)).toNat - (p : Int).toNat = runN isAlnum (s.drop p) := by omega
      have hlen : ((s.drop p).take (runN isAlnum (s.drop p))).length = runN isAlnum (s.drop p) := by rw [List.length_take, List.length_drop]; omega
      refine sc_exit rfl (hK5 _ _ ?_)
      refine sc_sub [(0, _, _), (1, _, _), (4, _, _), (6, _, _)] (sub_cons rfl (sub_cons rfl (sub_cons rfl (sub_cons rfl (sub_nil _))))) ?_
      refine sc_seq fun K8 hK8 => ?_
      refine sc_text [3, 3, 3, 3, 3, 3, 1, 2] ?_
      refine sr_pu rfl (fun _ => rd_move (ev_t rfl)) ?_
      refine sr_pu rfl (fun _ => rd_move (ev_t rfl)) ?_
      refine sr_pu rfl (fun _ => rd_move (ev_t rfl)) ?_
      refine sr_pu rfl (fun _ => rd_ssl str_string (ev_t rfl) (ev_t rfl) (ev_t rfl) (fun _ => by omega)) ?_
      rw [e]
      refine sr_pu rfl (fun _ => rd_move (ev_t rfl)) ?_
      refine sr_pu rfl (fun _ => rd_build [_, _, _] ze_api_Token rfl pl_api_Token (parts_cons ev_c (parts_cons (ev_t rfl) (parts_cons (ev_t rfl) (parts_nil)))) rfl) ?_
      refine sr_alloc rfl ze_api_Token rfl ?_
      intro b7 w7 N7
      have x7_4 := N7.ne B4
      have l7 := N7.ge g
      have g := g.trans (N7.g)
      have B4 := B4.grow (N7.g)
      have B7 := N7.blk
      refine sr_store rfl sz_api_Token (ev_t rfl) (ev_t rfl) rfl rfl B7 rfl rfl ?_
      intro wS1 hgS1 hzS1 B7
      have B4 := B4.keep hgS1 (by intro h; injection h with h; omega)
      have g := g_only g hgS1 (by intro k hk; injection hk with hk; omega)
      refine sr_nil (hK8 _ _ ?_)
      refine sc_sub [(0, _, _), (1, _, _), (4, _, _), (6, _, _), (7, _, _), (35, _, _), (36, _, _), (37, _, _), (38, _, _), (39, _, _), (40, _, _)] (sub_cons rfl (sub_cons rfl (sub_cons rfl (sub_cons rfl (sub_cons rfl (sub_cons rfl (sub_cons rfl (sub_cons rfl (sub_cons rfl (sub_cons rfl (sub_cons rfl (sub_nil _)))))))))))) ?_
      refine sc_seq fun K9 hK9 => ?_
      refine sc_seq fun K10 hK10 => ?_
      refine sc_text [3, 0, 1] ?_
      refine sr_pu rfl (fun _ => rd_field fo_api_Token_1 (ev_t rfl)) ?_
      refine sr_rd rfl (rd_load one_string (ev_t rfl) (fun _ => by first | assumption | exact B4.at_ rfl | exact B4.row | exact B7.at_ rfl | exact B7.row)) ?_
      refine sr_pure rfl (rc_call go_r02_Keyword ev_f (args_cons (ev_t rfl) (args_nil)) rfl) (rkeyword_ok _ _) (fun w43 g43 => ?_)
      have g := g.trans (g43)
      have B4 := B4.grow (g43)
      have B7 := B7.grow (g43)
      refine sr_nil (hK10 _ _ ?_)
      refine sc_cond (ev_t rfl) (fun h3 => ?_) (fun h3 => ?_)
      · skip
        replace h3 : inB kws ((s.drop p).take (runN isAlnum (s.drop p))) = true := h3
        refine sc_text [3, 2] ?_
        refine sr_pu rfl (fun _ => rd_field fo_api_Token_0 (ev_t rfl)) ?_
        refine sr_store rfl sz_int (ev_t rfl) ev_c rfl rfl B7 rfl rfl ?_
        intro wS2 hgS2 hzS2 B7
        have B4 := B4.keep hgS2 (by intro h; injection h with h; omega)
        have g := g_only g hgS2 (by intro k hk; injection hk with hk; omega)
        refine sr_nil (hK9 _ _ ?_)
        refine sc_seq fun K11 hK11 => ?_
        refine sc_seq fun K12 hK12 => ?_
        refine sc_text [3, 0, 3, 3] ?_
        refine sr_pu rfl (fun _ => rd_field fo_api_Token_1 (ev_t rfl)) ?_
        refine sr_rd rfl (rd_load one_string (ev_t rfl) (fun _ => by first | assumption | exact B4.at_ rfl | exact B4.row | exact B7.at_ rfl | exact B7.row)) ?_
        refine sr_pu rfl (fun _ => rd_slen str_string (ev_t rfl)) ?_
        refine sr_pu rfl (fun _ => rd_gt (ev_t rfl) ev_c) ?_
        refine sr_nil (hK12 _ _ ?_)
        refine sc_cond (ev_t rfl) (fun h4 => ?_) (fun h4 => ?_)
        · skip
          replace h4 : decide ((32 : Int) < (((s.drop p).take (runN isAlnum (s.drop p))).length : Nat)) = true := h4
          rw [hlen] at h4
          have hN : nextR s p = (⟨3, (s.drop p).take (runN isAlnum (s.drop p)), p⟩, 3) := by unfold nextR; rw [h1, wordK, h3, h4]; rfl
          refine sc_seq fun K13 hK13 => ?_
          refine sc_text [0, 2, 3] ?_
          refine sr_rd rfl (rd_loads agg_api_Token (ev_t rfl) rfl (fun _ => by first | assumption | exact B4.at_ rfl | exact B4.row | exact B7.at_ rfl | exact B7.row)) ?_
          refine sr_store rfl sz_api_Token (ev_t rfl) (ev_t rfl) rfl rfl B4 rfl rfl ?_
          intro wS3 hgS3 hzS3 B4
          have B7 := B7.keep hgS3 (by intro h; injection h with h; omega)
          have g := g_only g hgS3 (by intro k hk; injection hk with hk; omega)
          refine sr_pu rfl (fun _ => rd_assign ev_c) ?_
          refine sr_nil (hK13 _ _ ?_)
          refine sc_sub [(0, _, _), (1, _, _), (4, _, _), (5, _, _), (6, _, _), (7, _, _), (35, _, _), (36, _, _), (37, _, _), (38, _, _), (39, _, _), (40, _, _), (41, _, _), (42, _, _), (43, _, _), (44, _, _), (45, _, _), (46, _, _), (47, _, _), (48, _, _), (49, _, _)] (sub_cons rfl (sub_cons rfl (sub_cons rfl (sub_cons rfl (sub_cons rfl (sub_cons rfl (sub_cons rfl (sub_cons rfl (sub_cons rfl (sub_cons rfl (sub_cons rfl (sub_cons rfl (sub_cons rfl (sub_cons rfl (sub_cons rfl (sub_cons rfl (sub_cons rfl (sub_cons rfl (sub_cons rfl (sub_cons rfl (sub_cons rfl (sub_nil _)))))))))))))))))))))) ?_
          refine sc_ret (t_retv (rs := [.cell 4 33, .tmp 5]) (vs := [_, _]) rfl rfl (evr_c rfl agg_api_Token rfl (by first | assumption | exact B4.row | exact B7.row) (evr_t rfl (evr_nil))) rfl ?_)
          rw [hN]; exact ⟨rfl, g⟩
        · skip
          replace h4 : decide ((32 : Int) < (((s.drop p).take (runN isAlnum (s.drop p))).length : Nat)) = false := h4
          rw [hlen] at h4
          have hN : nextR s p = (⟨3, (s.drop p).take (runN isAlnum (s.drop p)), p⟩, 0) := by unfold nextR; rw [h1, wordK, h3, h4]; rfl
          refine sc_skip (hK11 _ _ ?_)
          refine sc_seq fun K14 hK14 => ?_
          refine sc_text [0, 2, 3] ?_
          refine sr_rd rfl (rd_loads agg_api_Token (ev_t rfl) rfl (fun _ => by first | assumption | exact B4.at_ rfl | exact B4.row | exact B7.at_ rfl | exact B7.row)) ?_
          refine sr_store rfl sz_api_Token (ev_t rfl) (ev_t rfl) rfl rfl B4 rfl rfl ?_
          intro wS4 hgS4 hzS4 B4
          have B7 := B7.keep hgS4 (by intro h; injection h with h; omega)
          have g := g_only g hgS4 (by intro k hk; injection hk with hk; omega)
          refine sr_pu rfl (fun _ => rd_assign ev_c) ?_
          refine sr_nil (hK14 _ _ ?_)
          refine sc_sub [(0, _, _), (1, _, _), (4, _, _), (5, _, _), (6, _, _), (7, _, _), (35, _, _), (36, _, _), (37, _, _), (38, _, _), (39, _, _), (40, _, _), (41, _, _), (42, _, _), (43, _, _), (44, _, _), (45, _, _), (46, _, _), (47, _, _), (48, _, _), (50, _, _)] (sub_cons rfl (sub_cons rfl (sub_cons rfl (sub_cons rfl (sub_cons rfl (sub_cons rfl (sub_cons rfl (sub_cons rfl (sub_cons rfl (sub_cons rfl (sub_cons rfl (sub_cons rfl (sub_cons rfl (sub_cons rfl (sub_cons rfl (sub_cons rfl (sub_cons rfl (sub_cons rfl (sub_cons rfl (sub_cons rfl (sub_cons rfl (sub_nil _)))))))))))))))))))))) ?_
          refine sc_ret (t_retv (rs := [.cell 4 33, .tmp 5]) (vs := [_, _]) rfl rfl (evr_c rfl agg_api_Token rfl (by first | assumption | exact B4.row | exact B7.row) (evr_t rfl (evr_nil))) rfl ?_)
          rw [hN]; exact ⟨rfl, g⟩
      · skip
        replace h3 : inB kws ((s.drop p).take (runN isAlnum (s.drop p))) = false := h3
        refine sc_skip (hK9 _ _ ?_)
        refine sc_seq fun K15 hK15 => ?_
        refine sc_seq fun K16 hK16 => ?_
        refine sc_text [3, 0, 3, 3] ?_
        refine sr_pu rfl (fun _ => rd_field fo_api_Token_1 (ev_t rfl)) ?_
        refine sr_rd rfl (rd_load one_string (ev_t rfl) (fun _ => by first | assumption | exact B4.at_ rfl | exact B4.row | exact B7.at_ rfl | exact B7.row)) ?_
        refine sr_pu rfl (fun _ => rd_slen str_string (ev_t rfl)) ?_
        refine sr_pu rfl (fun _ => rd_gt (ev_t rfl) ev_c) ?_
        refine sr_nil (hK16 _ _ ?_)
        refine sc_cond (ev_t rfl) (fun h5 => ?_) (fun h5 => ?_)
        · skip
          replace h5 : decide ((32 : Int) < (((s.drop p).take (runN isAlnum (s.drop p))).length : Nat)) = true := h5
          rw [hlen] at h5
          have hN : nextR s p = (⟨1, (s.drop p).take (runN isAlnum (s.drop p)), p⟩, 3) := by unfold nextR; rw [h1, wordK, h3, h5]; rfl
          refine sc_seq fun K17 hK17 => ?_
          refine sc_text [0, 2, 3] ?_
          refine sr_rd rfl (rd_loads agg_api_Token (ev_t rfl) rfl (fun _ => by first | assumption | exact B4.at_ rfl | exact B4.row | exact B7.at_ rfl | exact B7.row)) ?_
          refine sr_store rfl sz_api_Token (ev_t rfl) (ev_t rfl) rfl rfl B4 rfl rfl ?_
          intro wS5 hgS5 hzS5 B4
          have B7 := B7.keep hgS5 (by intro h; injection h with h; omega)
          have g := g_only g hgS5 (by intro k hk; injection hk with hk; omega)
          refine sr_pu rfl (fun _ => rd_assign ev_c) ?_
          refine sr_nil (hK17 _ _ ?_)
          refine sc_sub [(0, _, _), (1, _, _), (4, _, _), (5, _, _), (6, _, _), (7, _, _), (35, _, _), (36, _, _), (37, _, _), (38, _, _), (39, _, _), (40, _, _), (41, _, _), (42, _, _), (43, _, _), (45, _, _), (46, _, _), (47, _, _), (48, _, _), (49, _, _)] (sub_cons rfl (sub_cons rfl (sub_cons rfl (sub_cons rfl (sub_cons rfl (sub_cons rfl (sub_cons rfl (sub_cons rfl (sub_cons rfl (sub_cons rfl (sub_cons rfl (sub_cons rfl (sub_cons rfl (sub_cons rfl (sub_cons rfl (sub_cons rfl (sub_cons rfl (sub_cons rfl (sub_cons rfl (sub_cons rfl (sub_nil _))))))))))))))))))))) ?_
          refine sc_ret (t_retv (rs := [.cell 4 33, .tmp 5]) (vs := [_, _]) rfl rfl (evr_c rfl agg_api_Token rfl (by first | assumption | exact B4.row | exact B7.row) (evr_t rfl (evr_nil))) rfl ?_)
          rw [hN]; exact ⟨rfl, g⟩
        · skip
          replace h5 : decide ((32 : Int) < (((s.drop p).take (runN isAlnum (s.drop p))).length : Nat)) = false := h5
          rw [hlen] at h5
          have hN : nextR s p = (⟨1, (s.drop p).take (runN isAlnum (s.drop p)), p⟩, 0) := by unfold nextR; rw [h1, wordK, h3, h5]; rfl
          refine sc_skip (hK15 _ _ ?_)
          refine sc_seq fun K18 hK18 => ?_
          refine sc_text [0, 2, 3] ?_
          refine sr_rd rfl (rd_loads agg_api_Token (ev_t rfl) rfl (fun _ => by first | assumption | exact B4.at_ rfl | exact B4.row | exact B7.at_ rfl | exact B7.row)) ?_
          refine sr_store rfl sz_api_Token (ev_t rfl) (ev_t rfl) rfl rfl B4 rfl rfl ?_
          intro wS6 hgS6 hzS6 B4
          have B7 := B7.keep hgS6 (by intro h; injection h with h; omega)
          have g := g_only g hgS6 (by intro k hk; injection hk with hk; omega)
          refine sr_pu rfl (fun _ => rd_assign ev_c) ?_
          refine sr_nil (hK18 _ _ ?_)
          refine sc_sub [(0, _, _), (1, _, _), (4, _, _), (5, _, _), (6, _, _), (7, _, _), (35, _, _), (36, _, _), (37, _, _), (38, _, _), (39, _, _), (40, _, _), (41, _, _), (42, _, _), (43, _, _), (45, _, _), (46, _, _), (47, _, _), (48, _, _), (50, _, _)] (sub_cons rfl (sub_cons rfl (sub_cons rfl (sub_cons rfl (sub_cons rfl (sub_cons rfl (sub_cons rfl (sub_cons rfl (sub_cons rfl (sub_cons rfl (sub_cons rfl (sub_cons rfl (sub_cons rfl (sub_cons rfl (sub_cons rfl (sub_cons rfl (sub_cons rfl (sub_cons rfl (sub_cons rfl (sub_cons rfl (sub_nil _))))))))))))))))))))) ?_
          refine sc_ret (t_retv (rs := [.cell 4 33, .tmp 5]) (vs := [_, _]) rfl rfl (evr_c rfl agg_api_Token rfl (by first | assumption | exact B4.row | exact B7.row) (evr_t rfl (evr_nil))) rfl ?_)
          rw [hN]; exact ⟨rfl, g⟩
  · skip
    replace h1 : letterB (cAt s p) = false := h1
    refine sc_seq fun K19 hK19 => ?_
    refine sc_text [3, 3, 3, 1, 3] ?_
    refine sr_pu rfl (fun _ => rd_move (ev_t rfl)) ?_
    refine sr_pu rfl (fun _ => rd_move (ev_t rfl)) ?_
    refine sr_pu rfl (fun _ => rd_sidx str_string (ev_t rfl) (ev_t rfl) (fun _ => by omega)) ?_
    refine sr_pure rfl (rc_call go_r02_digit ev_f (args_cons (ev_t rfl) (args_nil)) rfl) (rdigit_ok _ _) (fun w55 g55 => ?_)
    have g := g.trans (g55)
    have B4 := B4.grow (g55)
    refine sr_pu rfl (fun _ => rd_assign (ev_t rfl)) ?_
    refine sr_sub [(0, _, _), (1, _, _), (4, _, _), (5, _, _), (6, _, _), (51, _, _)] (sub_cons rfl (sub_cons rfl (sub_cons rfl (sub_cons rfl (sub_cons rfl (sub_cons rfl (sub_nil _))))))) ?_
    refine sr_nil (hK19 _ _ ?_)
    refine sc_cond (ev_t rfl) (fun h6 => ?_) (fun h6 => ?_)
    · skip
      replace h6 : digitB (cAt s p) = true := h6
      have hpos := runN_pos (q := digitB) hp h6
      refine sc_seq fun K20 hK20 => ?_
      refine sc_block ?_
      refine sc_loop (fun (n : Nat) u => p + n ≤ s.length ∧ runN digitB (s.drop p) = n + runN digitB (s.drop (p + n)) ∧ G w u ∧ Blk u b4 33 [.int .i64 0, .string ⟨#[]⟩, .int .i64 0]) (fun n => [(0, True, Str s), (1, True, .int .i64 p), (4, True, .pointer (some ⟨b4, 0, none⟩)), (6, True, .int .i64 (p + n : Nat))]) (fun n => s.length - n) 0 ⟨by omega, by simp, g, B4⟩ (sub_cons rfl (sub_cons rfl (sub_cons rfl (sub_cons rfl (sub_nil _))))) ?_
      rintro n u ⟨hn, he, g, B4⟩
      refine sc_seq fun K21 hK21 => ?_
      refine sc_seq fun K22 hK22 => ?_
      refine sc_text [3, 3, 3, 3, 3, 3, 3, 3, 1, 3] ?_
      refine sr_pu rfl (fun _ => rd_move (ev_t rfl)) ?_
      refine sr_pu rfl (fun _ => rd_move (ev_t rfl)) ?_
      refine sr_pu rfl (fun _ => rd_slen str_string (ev_t rfl)) ?_
      refine sr_pu rfl (fun _ => rd_lt (ev_t rfl) (ev_t rfl)) ?_
      refine sr_pu rfl (fun _ => rd_move (ev_t rfl)) ?_
      refine sr_pug rfl rfl rfl (fun _ => rd_move (ev_t rfl)) ?_
      refine sr_pug rfl rfl rfl (fun _ => rd_move (ev_t rfl)) ?_
      refine sr_pug rfl rfl rfl (fun _ => rd_sidx str_string (ev_u rfl id) (ev_u rfl id) (fun hc => by have := of_decide_eq_true hc.2; omega)) ?_
      refine sr_pureg rfl rfl rfl (fun _ => (rc_call go_r02_digit ev_f (args_cons (ev_u rfl id) (args_nil)) rfl)) (fun hc => rdigit_ok _ _) (fun w64 g64 => ?_)
      have g := g.trans (g64)
      have B4 := B4.grow (g64)
      refine sr_pu rfl (fun _ => rd_pick_and (ev_t rfl) (ev_u rfl id)) ?_
      refine sr_sub [(0, _, _), (1, _, _), (4, _, _), (6, _, _), (65, _, _)] (sub_cons rfl (sub_cons rfl (sub_cons rfl (sub_cons rfl (sub_cons rfl (sub_nil _)))))) ?_
      refine sr_nil (hK22 _ _ ?_)
      refine sc_cond (ev_t rfl) (fun h7 => ?_) (fun h7 => ?_)
      · skip
        have hm := run_more (q := digitB) h7 he
        refine sc_skip (hK21 _ _ ?_)
        refine sc_sub [(0, _, _), (1, _, _), (4, _, _), (6, _, _)] (sub_cons rfl (sub_cons rfl (sub_cons rfl (sub_cons rfl (sub_nil _))))) ?_
        refine sc_block ?_
        refine sc_text [3, 3, 3] ?_
        refine sr_pu rfl (fun _ => rd_move (ev_t rfl)) ?_
        refine sr_pu rfl (fun _ => rd_add (ev_t rfl) ev_c (fun _ => by omega)) ?_
        refine sr_pu rfl (fun _ => rd_assign (ev_t rfl)) ?_
        refine sr_sub [(0, _, _), (1, _, _), (4, _, _), (6, _, _)] (sub_cons rfl (sub_cons rfl (sub_cons rfl (sub_cons rfl (sub_nil _))))) ?_
        refine sr_nil (fun a ha => ?_)
        exact ⟨n + 1, ha, ⟨hm.1, hm.2, g, B4⟩, by omega⟩
      · skip
        obtain rfl := run_done (q := digitB) h7 he
        have e : (((p + runN digitB (s.drop p) : Nat) : Int)).toNat - (p : Int).toNat = runN digitB (s.drop p) := by omega
        have hlen : ((s.drop p).take (runN digitB (s.drop p))).length = runN digitB (s.drop p) := by rw [List.length_take, List.length_drop]; omega
        refine sc_exit rfl (hK20 _ _ ?_)
        refine sc_sub [(0, _, _), (1, _, _), (4, _, _), (6, _, _)] (sub_cons rfl (sub_cons rfl (sub_cons rfl (sub_cons rfl (sub_nil _))))) ?_
        refine sc_seq fun K23 hK23 => ?_
        refine sc_text [3, 3, 3, 3, 1, 3, 3, 3, 3, 3] ?_
        refine sr_pu rfl (fun _ => rd_move (ev_t rfl)) ?_
        refine sr_pu rfl (fun _ => rd_move (ev_t rfl)) ?_
        refine sr_pu rfl (fun _ => rd_move (ev_t rfl)) ?_
        refine sr_pu rfl (fun _ => rd_ssl str_string (ev_t rfl) (ev_t rfl) (ev_t rfl) (fun _ => by omega)) ?_
        rw [e]
        refine sr_call rfl (rc_call go_r02_Integer ev_f (args_cons (ev_t rfl) (args_nil)) rfl) (integer_ok _ (digits_allD s p) (by intro h0; have h0 := congrArg List.length h0; replace h0 : ((s.drop p).take (runN digitB (s.drop p))).length = 0 := h0; rw [hlen] at h0; omega) (by show ((s.drop p).take (runN digitB (s.drop p))).length ≤ 20000; rw [hlen]; omega) _) ?_
        rintro v73 w73 ⟨⟨x, rfl⟩, g73⟩
        refine ⟨fun _ => g73, ?_⟩
        have g := g.trans g73
        have B4 := B4.grow g73
        refine sr_pu rfl (fun _ => rd_move (ev_t rfl)) ?_
        refine sr_pu rfl (fun _ => rd_extract (ev_t rfl) rfl) ?_
        refine sr_pu rfl (fun _ => rd_extract (ev_t rfl) rfl) ?_
        refine sr_pu rfl (fun _ => rd_assign (ev_t rfl)) ?_
        refine sr_pu rfl (fun _ => rd_assign (ev_t rfl)) ?_
        refine sr_sub [(0, _, _), (1, _, _), (4, _, _), (6, _, _), (9, _, _), (68, _, _), (69, _, _), (70, _, _), (71, _, _), (72, _, _), (73, _, _), (74, _, _), (75, _, _)] (sub_cons rfl (sub_cons rfl (sub_cons rfl (sub_cons rfl (sub_cons rfl (sub_cons rfl (sub_cons rfl (sub_cons rfl (sub_cons rfl (sub_cons rfl (sub_cons rfl (sub_cons rfl (sub_cons rfl (sub_nil _)))))))))))))) ?_
        refine sr_nil (hK23 _ _ ?_)
        refine sc_seq fun K24 hK24 => ?_
        refine sc_seq fun K25 hK25 => ?_
        refine sc_text [3, 3, 3, 3, 3, 3, 3, 3, 3, 3, 3, 1, 3, 3] ?_
        refine sr_pu rfl (fun _ => rd_move (ev_t rfl)) ?_
        refine sr_pu rfl (fun _ => rd_not (ev_t rfl)) ?_
        refine sr_pu rfl (fun _ => rd_move (ev_t rfl)) ?_
        refine sr_pug rfl rfl rfl (fun _ => rd_move (ev_t rfl)) ?_
        refine sr_pug rfl rfl rfl (fun _ => rd_move (ev_t rfl)) ?_
        refine sr_pug rfl rfl rfl (fun _ => rd_slen str_string (ev_u rfl id)) ?_
        refine sr_pug rfl rfl rfl (fun _ => rd_lt (ev_u rfl id) (ev_u rfl id)) ?_
        refine sr_pug rfl rfl rfl (fun _ => rd_move (ev_u rfl id)) ?_
        refine sr_pug rfl rfl rfl (fun _ => rd_move (ev_t rfl)) ?_
        refine sr_pug rfl rfl rfl (fun _ => rd_move (ev_t rfl)) ?_
        refine sr_pug rfl rfl rfl (fun _ => rd_sidx str_string (ev_u rfl id) (ev_u rfl id) (fun hc => by have := of_decide_eq_true hc.2; omega)) ?_
        refine sr_pureg rfl rfl rfl (fun _ => (rc_call go_r02_letter ev_f (args_cons (ev_u rfl id) (args_nil)) rfl)) (fun hc => rletter_ok _ _) (fun w87 g87 => ?_)
        have g := g.trans (g87)
        have B4 := B4.grow (g87)
        refine sr_pug rfl rfl rfl (fun _ => rd_pick_and (ev_u rfl id) (ev_u rfl id)) ?_
        refine sr_pu rfl (fun _ => rd_pick_or (ev_t rfl) (ev_u rfl id)) ?_
        refine sr_nil (hK25 _ _ ?_)
        refine sc_cond (ev_t rfl) (fun h8 => ?_) (fun h8 => ?_)
        · skip
          replace h8 : ((!intOk ((s.drop p).take (runN digitB (s.drop p)))) || (decide ((p : Int) + runN digitB (s.drop p) < s.length) && letterB (cAt s (p + runN digitB (s.drop p))))) = true := h8
          have hN : nextR s p = (⟨0, [], 0⟩, 4) := by unfold nextR; rw [h1, h6, h8]; rfl
          refine sc_seq fun K26 hK26 => ?_
          refine sc_text [3, 2, 3] ?_
          refine sr_pu rfl (fun _ => rd_build [_, _, _] ze_api_Token rfl pl_api_Token (parts_nil) rfl) ?_
          refine sr_store rfl sz_api_Token (ev_t rfl) (ev_t rfl) rfl rfl B4 rfl rfl ?_
          intro wS7 hgS7 hzS7 B4
          have g := g_only g hgS7 (by intro k hk; injection hk with hk; omega)
          refine sr_pu rfl (fun _ => rd_assign ev_c) ?_
          refine sr_nil (hK26 _ _ ?_)
          refine sc_sub [(0, _, _), (1, _, _), (4, _, _), (5, _, _), (6, _, _), (9, _, _), (68, _, _), (69, _, _), (70, _, _), (71, _, _), (72, _, _), (73, _, _), (74, _, _), (75, _, _), (76, _, _), (77, _, _), (78, _, _), (79, _, _), (80, _, _), (81, _, _), (82, _, _), (83, _, _), (84, _, _), (85, _, _), (86, _, _), (87, _, _), (88, _, _), (89, _, _), (90, _, _)] (sub_cons rfl (sub_cons rfl (sub_cons rfl (sub_cons rfl (sub_cons rfl (sub_cons rfl (sub_cons rfl (sub_cons rfl (sub_cons rfl (sub_cons rfl (sub_cons rfl (sub_cons rfl (sub_cons rfl (sub_cons rfl (sub_cons rfl (sub_cons rfl (sub_cons rfl (sub_cons rfl (sub_cons rfl (sub_cons rfl (sub_cons rfl (sub_cons rfl (sub_cons rfl (sub_cons rfl (sub_cons rfl (sub_cons rfl (sub_cons rfl (sub_cons rfl (sub_cons rfl (sub_nil _)))))))))))))))))))))))))))))) ?_
          refine sc_ret (t_retv (rs := [.cell 4 33, .tmp 5]) (vs := [_, _]) rfl rfl (evr_c rfl agg_api_Token rfl (by first | assumption | exact B4.row) (evr_t rfl (evr_nil))) rfl ?_)
          rw [hN]; exact ⟨rfl, g⟩
        · skip
          replace h8 : ((!intOk ((s.drop p).take (runN digitB (s.drop p)))) || (decide ((p : Int) + runN digitB (s.drop p) < s.length) && letterB (cAt s (p + runN digitB (s.drop p))))) = false := h8
          have hN : nextR s p = (⟨2, (s.drop p).take (runN digitB (s.drop p)), p⟩, 0) := by unfold nextR; rw [h1, h6, h8]; rfl
          refine sc_skip (hK24 _ _ ?_)
          refine sc_seq fun K27 hK27 => ?_
          refine sc_text [3, 3, 3, 3, 3, 3, 2, 3] ?_
          refine sr_pu rfl (fun _ => rd_move (ev_t rfl)) ?_
          refine sr_pu rfl (fun _ => rd_move (ev_t rfl)) ?_
          refine sr_pu rfl (fun _ => rd_move (ev_t rfl)) ?_
          refine sr_pu rfl (fun _ => rd_ssl str_string (ev_t rfl) (ev_t rfl) (ev_t rfl) (fun _ => by omega)) ?_
          rw [e]
          refine sr_pu rfl (fun _ => rd_move (ev_t rfl)) ?_
          refine sr_pu rfl (fun _ => rd_build [_, _, _] ze_api_Token rfl pl_api_Token (parts_cons ev_c (parts_cons (ev_t rfl) (parts_cons (ev_t rfl) (parts_nil)))) rfl) ?_
          refine sr_store rfl sz_api_Token (ev_t rfl) (ev_t rfl) rfl rfl B4 rfl rfl ?_
          intro wS8 hgS8 hzS8 B4
          have g := g_only g hgS8 (by intro k hk; injection hk with hk; omega)
          refine sr_pu rfl (fun _ => rd_assign ev_c) ?_
          refine sr_nil (hK27 _ _ ?_)
          refine sc_sub [(0, _, _), (1, _, _), (4, _, _), (5, _, _), (6, _, _), (9, _, _), (68, _, _), (69, _, _), (70, _, _), (71, _, _), (72, _, _), (73, _, _), (74, _, _), (75, _, _), (76, _, _), (77, _, _), (78, _, _), (79, _, _), (80, _, _), (81, _, _), (82, _, _), (83, _, _), (84, _, _), (85, _, _), (86, _, _), (87, _, _), (88, _, _), (89, _, _), (91, _, _), (92, _, _), (93, _, _), (94, _, _), (95, _, _), (96, _, _)] (sub_cons rfl (sub_cons rfl (sub_cons rfl (sub_cons rfl (sub_cons rfl (sub_cons rfl (sub_cons rfl (sub_cons rfl (sub_cons rfl (sub_cons rfl (sub_cons rfl (sub_cons rfl (sub_cons rfl (sub_cons rfl (sub_cons rfl (sub_cons rfl (sub_cons rfl (sub_cons rfl (sub_cons rfl (sub_cons rfl (sub_cons rfl (sub_cons rfl (sub_cons rfl (sub_cons rfl (sub_cons rfl (sub_cons rfl (sub_cons rfl (sub_cons rfl (sub_cons rfl (sub_cons rfl (sub_cons rfl (sub_cons rfl (sub_cons rfl (sub_cons rfl (sub_nil _))))))))))))))))))))))))))))))))))) ?_
          refine sc_ret (t_retv (rs := [.cell 4 33, .tmp 5]) (vs := [_, _]) rfl rfl (evr_c rfl agg_api_Token rfl (by first | assumption | exact B4.row) (evr_t rfl (evr_nil))) rfl ?_)
          rw [hN]; exact ⟨rfl, g⟩
    · skip
      replace h6 : digitB (cAt s p) = false := h6
      refine sc_seq fun K28 hK28 => ?_
      refine sc_text [3, 3, 3, 3, 3, 3, 3, 3, 3, 3, 3, 3, 3, 3, 3, 3, 3, 3, 3] ?_
      refine sr_pu rfl (fun _ => rd_move (ev_t rfl)) ?_
      refine sr_pu rfl (fun _ => rd_move (ev_t rfl)) ?_
      refine sr_pu rfl (fun _ => rd_sidx str_string (ev_t rfl) (ev_t rfl) (fun _ => by omega)) ?_
      refine sr_pu rfl (fun _ => rd_eq (ev_t rfl) ev_c) ?_
      refine sr_pu rfl (fun _ => rd_move (ev_t rfl)) ?_
      refine sr_pug rfl rfl rfl (fun _ => rd_move (ev_t rfl)) ?_
      refine sr_pug rfl rfl rfl (fun _ => rd_add (ev_u rfl id) ev_c (fun _ => by omega)) ?_
      refine sr_pug rfl rfl rfl (fun _ => rd_move (ev_t rfl)) ?_
      refine sr_pug rfl rfl rfl (fun _ => rd_slen str_string (ev_u rfl id)) ?_
      refine sr_pug rfl rfl rfl (fun _ => rd_lt (ev_u rfl id) (ev_u rfl id)) ?_
      refine sr_pu rfl (fun _ => rd_pick_and (ev_t rfl) (ev_u rfl id)) ?_
      refine sr_pu rfl (fun _ => rd_move (ev_t rfl)) ?_
      refine sr_pug rfl rfl rfl (fun _ => rd_move (ev_t rfl)) ?_
      refine sr_pug rfl rfl rfl (fun _ => rd_move (ev_t rfl)) ?_
      refine sr_pug rfl rfl rfl (fun _ => rd_add (ev_u rfl id) ev_c (fun _ => by omega)) ?_
      refine sr_pug rfl rfl rfl (fun _ => rd_sidx str_string (ev_u rfl id) (ev_u rfl id) (fun hc => by have := hc.2; simp only [Bool.and_eq_true, decide_eq_true_eq] at this; omega)) ?_
      refine sr_pug rfl rfl rfl (fun _ => rd_eq (ev_u rfl id) ev_c) ?_
      refine sr_pu rfl (fun _ => rd_pick_and (ev_t rfl) (ev_u rfl id)) ?_
      refine sr_pu rfl (fun _ => rd_assign (ev_t rfl)) ?_
      refine sr_sub [(0, _, _), (1, _, _), (4, _, _), (5, _, _), (6, _, _), (97, _, _)] (sub_cons rfl (sub_cons rfl (sub_cons rfl (sub_cons rfl (sub_cons rfl (sub_cons rfl (sub_nil _))))))) ?_
      refine sr_nil (hK28 _ _ ?_)
      refine sc_cond (ev_t rfl) (fun h9 => ?_) (fun h9 => ?_)
      · skip
        replace h9 : ((decide (cAt s p = 47) && decide ((p : Int) + 1 < s.length)) && decide (cAt s (p + 1) = 47)) = true := h9
        refine sc_seq fun K29 hK29 => ?_
        refine sc_block ?_
        refine sc_loop (fun (n : Nat) u => p + n ≤ s.length ∧ runN isNotLf (s.drop p) = n + runN isNotLf (s.drop (p + n)) ∧ G w u ∧ Blk u b4 33 [.int .i64 0, .string ⟨#[]⟩, .int .i64 0]) (fun n => [(0, True, Str s), (1, True, .int .i64 p), (4, True, .pointer (some ⟨b4, 0, none⟩)), (6, True, .int .i64 (p + n : Nat))]) (fun n => s.length - n) 0 ⟨by omega, by simp, g, B4⟩ (sub_cons rfl (sub_cons rfl (sub_cons rfl (sub_cons rfl (sub_nil _))))) ?_
        rintro n u ⟨hn, he, g, B4⟩
        refine sc_seq fun K30 hK30 => ?_
        refine sc_seq fun K31 hK31 => ?_
        refine sc_text [3, 3, 3, 3, 3, 3, 3, 3, 3, 3] ?_
        refine sr_pu rfl (fun _ => rd_move (ev_t rfl)) ?_
        refine sr_pu rfl (fun _ => rd_move (ev_t rfl)) ?_
        refine sr_pu rfl (fun _ => rd_slen str_string (ev_t rfl)) ?_
        refine sr_pu rfl (fun _ => rd_lt (ev_t rfl) (ev_t rfl)) ?_
        refine sr_pu rfl (fun _ => rd_move (ev_t rfl)) ?_
        refine sr_pug rfl rfl rfl (fun _ => rd_move (ev_t rfl)) ?_
        refine sr_pug rfl rfl rfl (fun _ => rd_move (ev_t rfl)) ?_
        refine sr_pug rfl rfl rfl (fun _ => rd_sidx str_string (ev_u rfl id) (ev_u rfl id) (fun hc => by have := of_decide_eq_true hc.2; omega)) ?_
        refine sr_pug rfl rfl rfl (fun _ => rd_ne (ev_u rfl id) ev_c) ?_
        refine sr_pu rfl (fun _ => rd_pick_and (ev_t rfl) (ev_u rfl id)) ?_
        refine sr_sub [(0, _, _), (1, _, _), (4, _, _), (6, _, _), (125, _, _)] (sub_cons rfl (sub_cons rfl (sub_cons rfl (sub_cons rfl (sub_cons rfl (sub_nil _)))))) ?_
        refine sr_nil (hK31 _ _ ?_)
        refine sc_cond (ev_t rfl) (fun h10 => ?_) (fun h10 => ?_)
        · skip
          have hm := run_more (q := isNotLf) h10 he
          refine sc_skip (hK30 _ _ ?_)
          refine sc_sub [(0, _, _), (1, _, _), (4, _, _), (6, _, _)] (sub_cons rfl (sub_cons rfl (sub_cons rfl (sub_cons rfl (sub_nil _))))) ?_
          refine sc_block ?_
          refine sc_text [3, 3, 3] ?_
          refine sr_pu rfl (fun _ => rd_move (ev_t rfl)) ?_
          refine sr_pu rfl (fun _ => rd_add (ev_t rfl) ev_c (fun _ => by omega)) ?_
          refine sr_pu rfl (fun _ => rd_assign (ev_t rfl)) ?_
          refine sr_sub [(0, _, _), (1, _, _), (4, _, _), (6, _, _)] (sub_cons rfl (sub_cons rfl (sub_cons rfl (sub_cons rfl (sub_nil _))))) ?_
          refine sr_nil (fun a ha => ?_)
          exact ⟨n + 1, ha, ⟨hm.1, hm.2, g, B4⟩, by omega⟩
        · skip
          obtain rfl := run_done (q := isNotLf) h10 he
          have e : (((p + runN isNotLf (s.drop p) : Nat) : Int)).toNat - (p : Int).toNat = runN isNotLf (s.drop p) := by omega
          have hN : nextR s p = (⟨5, (s.drop p).take (runN isNotLf (s.drop p)), p⟩, 0) := by unfold nextR; rw [h1, h6, h9]; rfl
          refine sc_exit rfl (hK29 _ _ ?_)
          refine sc_sub [(0, _, _), (1, _, _), (4, _, _), (6, _, _)] (sub_cons rfl (sub_cons rfl (sub_cons rfl (sub_cons rfl (sub_nil _))))) ?_
          refine sc_seq fun K32 hK32 => ?_
          refine sc_text [3, 3, 3, 3, 3, 3, 2, 3] ?_
          refine sr_pu rfl (fun _ => rd_move (ev_t rfl)) ?_
          refine sr_pu rfl (fun _ => rd_move (ev_t rfl)) ?_
          refine sr_pu rfl (fun _ => rd_move (ev_t rfl)) ?_
          refine sr_pu rfl (fun _ => rd_ssl str_string (ev_t rfl) (ev_t rfl) (ev_t rfl) (fun _ => by omega)) ?_
          rw [e]
          refine sr_pu rfl (fun _ => rd_move (ev_t rfl)) ?_
          refine sr_pu rfl (fun _ => rd_build [_, _, _] ze_api_Token rfl pl_api_Token (parts_cons ev_c (parts_cons (ev_t rfl) (parts_cons (ev_t rfl) (parts_nil)))) rfl) ?_
          refine sr_store rfl sz_api_Token (ev_t rfl) (ev_t rfl) rfl rfl B4 rfl rfl ?_
          intro wS9 hgS9 hzS9 B4
          have g := g_only g hgS9 (by intro k hk; injection hk with hk; omega)
          refine sr_pu rfl (fun _ => rd_assign ev_c) ?_
          refine sr_nil (hK32 _ _ ?_)
          refine sc_sub [(0, _, _), (1, _, _), (4, _, _), (5, _, _), (6, _, _), (128, _, _), (129, _, _), (130, _, _), (131, _, _), (132, _, _), (133, _, _)] (sub_cons rfl (sub_cons rfl (sub_cons rfl (sub_cons rfl (sub_cons rfl (sub_cons rfl (sub_cons rfl (sub_cons rfl (sub_cons rfl (sub_cons rfl (sub_cons rfl (sub_nil _)))))))))))) ?_
          refine sc_ret (t_retv (rs := [.cell 4 33, .tmp 5]) (vs := [_, _]) rfl rfl (evr_c rfl agg_api_Token rfl (by first | assumption | exact B4.row) (evr_t rfl (evr_nil))) rfl ?_)
          rw [hN]; exact ⟨rfl, g⟩
      · skip
        replace h9 : ((decide (cAt s p = 47) && decide ((p : Int) + 1 < s.length)) && decide (cAt s (p + 1) = 47)) = false := h9
        refine sc_skip (hK3 _ _ ?_)
        refine sc_sub [(0, _, _), (1, _, _), (4, _, _), (5, _, _)] (sub_cons rfl (sub_cons rfl (sub_cons rfl (sub_cons rfl (sub_nil _))))) ?_
        refine sc_seq fun K33 hK33 => ?_
        refine sc_text [3, 3, 3, 1, 3] ?_
        refine sr_pu rfl (fun _ => rd_move (ev_t rfl)) ?_
        refine sr_pu rfl (fun _ => rd_move (ev_t rfl)) ?_
        refine sr_pu rfl (fun _ => rd_ssl_from str_string (ev_t rfl) (ev_t rfl) (fun _ => by omega)) ?_
        refine sr_pure rfl (rc_call go_r02_operator ev_f (args_cons (ev_t rfl) (args_nil)) rfl) (operator_ok _ (by show (s.drop p).length ≤ 20000; rw [List.length_drop]; omega) _) (fun w137 g137 => ?_)
        have g := g.trans (g137)
        have B4 := B4.grow (g137)
        refine sr_pu rfl (fun _ => rd_assign (ev_t rfl)) ?_
        refine sr_nil (hK33 _ _ ?_)
        refine sc_sub [(0, _, _), (1, _, _), (4, _, _), (5, _, _), (10, _, _), (134, _, _), (135, _, _), (136, _, _), (137, _, _)] (sub_cons rfl (sub_cons rfl (sub_cons rfl (sub_cons rfl (sub_cons rfl (sub_cons rfl (sub_cons rfl (sub_cons rfl (sub_cons rfl (sub_nil _)))))))))) ?_
        refine sc_seq fun K34 hK34 => ?_
        refine sc_seq fun K35 hK35 => ?_
        refine sc_text [3, 3] ?_
        refine sr_pu rfl (fun _ => rd_move (ev_t rfl)) ?_
        refine sr_pu rfl (fun _ => rd_seq (ev_t rfl) ev_c) ?_
        refine sr_nil (hK35 _ _ ?_)
        refine sc_cond (ev_t rfl) (fun h11 => ?_) (fun h11 => ?_)
        · skip
          replace h11 : decide ((s.drop p).take (opLenR (s.drop p)) = []) = true := h11
          have hN : nextR s p = (⟨0, [], 0⟩, 4) := by unfold nextR; rw [h1, h6, h9, h11]; rfl
          refine sc_seq fun K36 hK36 => ?_
          refine sc_text [3, 2, 3] ?_
          refine sr_pu rfl (fun _ => rd_build [_, _, _] ze_api_Token rfl pl_api_Token (parts_nil) rfl) ?_
          refine sr_store rfl sz_api_Token (ev_t rfl) (ev_t rfl) rfl rfl B4 rfl rfl ?_
          intro wS10 hgS10 hzS10 B4
          have g := g_only g hgS10 (by intro k hk; injection hk with hk; omega)
          refine sr_pu rfl (fun _ => rd_assign ev_c) ?_
          refine sr_nil (hK36 _ _ ?_)
          refine sc_ret (t_retv (rs := [.cell 4 33, .tmp 5]) (vs := [_, _]) rfl rfl (evr_c rfl agg_api_Token rfl (by first | assumption | exact B4.row) (evr_t rfl (evr_nil))) rfl ?_)
          rw [hN]; exact ⟨rfl, g⟩
        · skip
          replace h11 : decide ((s.drop p).take (opLenR (s.drop p)) = []) = false := h11
          have hN : nextR s p = (⟨4, (s.drop p).take (opLenR (s.drop p)), p⟩, 0) := by unfold nextR; rw [h1, h6, h9, h11]; rfl
          refine sc_skip (hK34 _ _ ?_)
          refine sc_seq fun K37 hK37 => ?_
          refine sc_text [3, 3, 3, 2, 3] ?_
          refine sr_pu rfl (fun _ => rd_move (ev_t rfl)) ?_
          refine sr_pu rfl (fun _ => rd_move (ev_t rfl)) ?_
          refine sr_pu rfl (fun _ => rd_build [_, _, _] ze_api_Token rfl pl_api_Token (parts_cons ev_c (parts_cons (ev_t rfl) (parts_cons (ev_t rfl) (parts_nil)))) rfl) ?_
          refine sr_store rfl sz_api_Token (ev_t rfl) (ev_t rfl) rfl rfl B4 rfl rfl ?_
          intro wS11 hgS11 hzS11 B4
          have g := g_only g hgS11 (by intro k hk; injection hk with hk; omega)
          refine sr_pu rfl (fun _ => rd_assign ev_c) ?_
          refine sr_nil (hK37 _ _ ?_)
          refine sc_ret (t_retv (rs := [.cell 4 33, .tmp 5]) (vs := [_, _]) rfl rfl (evr_c rfl agg_api_Token rfl (by first | assumption | exact B4.row) (evr_t rfl (evr_nil))) rfl ?_)
          rw [hN]; exact ⟨rfl, g⟩
end Go.Rk
