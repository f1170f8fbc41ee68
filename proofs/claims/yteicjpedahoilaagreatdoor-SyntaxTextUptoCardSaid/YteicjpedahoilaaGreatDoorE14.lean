/- Merged texts of one road: ScanS, ScanL, ScanM, ScanO, Tpl. Conditions: each text's own. -/
import Derived.Test.YteicjpedahoilaaGreatDoorE13
import Derived.KernelRfl
import Derived.Test.YteicjpedahoilaaGreatDoorE12
set_option linter.unusedSimpArgs false
set_option linter.unusedVariables false
namespace Go.Rk
open Go Go.RowKit
def opLenR (l : List UInt8) : Nat := bif decide (2 ≤ l.length) && inB opsL (l.take 2) then 2 else bif decide (1 ≤ l.length) && inB opsL (l.take 1) then 1 else 0
theorem operator_ok (l : List UInt8) (hl : l.length ≤ 20000) (w : World) : Ret PP Qhb #[Str l] w fun v w' => v = Str (l.take (opLenR l)) ∧ G w w' := by
  have g := G.refl w
  refine Ym (m := 46) Xtb rfl rfl [(0, True, _)] (Za rfl (Zd _)) ?_
  refine Zg fun K1 hK1 => ?_
  refine Zf [3] ?_
  refine Zc rfl (fun _ => Ze Zl) ?_
  refine Zh (hK1 _ _ ?_)
  refine Zg fun K2 hK2 => ?_
  refine Zg fun K3 hK3 => ?_
  refine Zf [3] ?_
  refine Zc rfl (fun _ => Ze Zl) ?_
  refine Zh (hK3 _ _ ?_)
  refine Yp ?_
  refine Zba (fun (n : Nat) u => n ≤ 2 ∧ (∀ m, n < m → m ≤ 2 → (decide (m ≤ l.length) && inB opsL (l.take m)) = false) ∧ G w u) (fun n => [(0, True, Str l), (3, True, .int .i64 n)]) (fun n => n) 2 ⟨by omega, by intro m h1 h2; omega, g⟩ (Za rfl (Za rfl (Zd _))) ?_
  rintro n u ⟨hn, hm, g⟩
  refine Zg fun K4 hK4 => ?_
  refine Zg fun K5 hK5 => ?_
  refine Zf [3, 3] ?_
  refine Zc rfl (fun _ => Zi (Zb rfl)) ?_
  refine Zc rfl (fun _ => Wla (Zb rfl) Zl) ?_
  refine Zj [(0, _, _), (3, _, _), (5, _, _)] (Za rfl (Za rfl (Za rfl (Zd _)))) ?_
  refine Zh (hK5 _ _ ?_)
  refine Zz (Zb rfl) (fun h1 => ?_) (fun h1 => ?_)
  · replace h1 : 1 ≤ n := by simp only [decide_eq_true_eq] at h1; omega
    refine Yq (hK4 _ _ ?_)
    refine Yi [(0, _, _), (3, _, _)] (Za rfl (Za rfl (Zd _))) ?_
    refine Zg fun K6 hK6 => ?_
    refine Yp ?_
    refine Zg fun K7 hK7 => ?_
    refine Zg fun K8 hK8 => ?_
    refine Zf [3, 3, 3, 3] ?_
    refine Zc rfl (fun _ => Zi (Zb rfl)) ?_
    refine Zc rfl (fun _ => Wz Yv (Zb rfl)) ?_
    refine Zc rfl (fun _ => Zi (Zb rfl)) ?_
    refine Zc rfl (fun _ => Vh (Zb rfl) (Zb rfl)) ?_
    refine Zj [(0, _, _), (3, _, _), (11, _, _)] (Za rfl (Za rfl (Za rfl (Zd _)))) ?_
    refine Zh (hK8 _ _ ?_)
    refine Zz (Zb rfl) (fun h2 => ?_) (fun h2 => ?_)
    · have hk : (decide (n ≤ l.length) && inB opsL (l.take n)) = false := by
        simp only [decide_eq_true_eq] at h2; rw [decide_eq_false (by omega : ¬ n ≤ l.length)]; rfl
      refine Wa rfl (hK6 _ _ ?_)
      refine Yi [(0, _, _), (3, _, _)] (Za rfl (Za rfl (Zd _))) ?_
      refine Zf [3, 3, 3] ?_
      refine Zc rfl (fun _ => Zi (Zb rfl)) ?_
      refine Zc rfl (fun _ => Jab (r := ((n - 1 : Nat) : Int)) (Zb rfl) Zl (fun hc => (by rw [Jlb ⟨by omega, by omega⟩]; omega))) ?_
      refine Zc rfl (fun _ => Ze (Zb rfl)) ?_
      refine Zj [(0, _, _), (3, _, _)] (Za rfl (Za rfl (Zd _))) ?_
      refine Zh (fun a ha => ?_)
      refine ⟨n - 1, ha, ⟨by omega, ?_, g⟩, by omega⟩
      intro m h1 h2
      by_cases e : m = n
      · rw [e]; exact hk
      · exact hm m (by omega) h2
    have hlen : n ≤ l.length := by simp only [decide_eq_false_iff_not] at h2; omega
    refine Yq (hK7 _ _ ?_)
    refine Yi [(0, _, _), (3, _, _)] (Za rfl (Za rfl (Zd _))) ?_
    refine Zg fun K9 hK9 => ?_
    refine Zf [3, 3, 3] ?_
    refine Zc rfl (fun _ => Zi (Zb rfl)) ?_
    refine Zc rfl (fun _ => Zi (Zb rfl)) ?_
    refine Zc rfl (fun _ => Wsb Yv (Zb rfl) (Zb rfl) (fun _ => by omega)) ?_
    refine Zj [(0, _, _), (3, _, _), (14, _, _)] (Za rfl (Za rfl (Za rfl (Zd _)))) ?_
    refine Zh (hK9 _ _ ?_)
    refine Yp ?_
    refine Zg fun K10 hK10 => ?_
    refine Zg fun K11 hK11 => ?_
    refine Zf [3, 3] ?_
    refine Zc rfl (fun _ => Yh (Zb rfl) Zl) ?_
    refine Zc rfl (fun _ => Ze (Zb rfl)) ?_
    refine Zj [(0, _, _), (3, _, _), (14, _, _), (15, _, _)] (Za rfl (Za rfl (Za rfl (Za rfl (Zd _))))) ?_
    refine Zh (hK11 _ _ ?_)
    refine' Yk [(0, _, _), (3, _, _)] (Za rfl (Za rfl (Za rfl (Zd _)))) rfl (fun hb3 => ?y3) (hK10 _ _ ?n3)
    case y3 =>
     refine Zg fun K12 hK12 => ?_
     refine Zf [3, 3] ?_
     refine Zc rfl (fun _ => Yh (Zb rfl) Zl) ?_
     refine Zc rfl (fun _ => Ze (Zb rfl)) ?_
     refine Zj [(0, _, _), (3, _, _), (14, _, _), (15, _, _)] (Za rfl (Za rfl (Za rfl (Za rfl (Zd _))))) ?_
     refine Zh (hK12 _ _ ?_)
     refine' Yk [(0, _, _), (3, _, _)] (Za rfl (Za rfl (Za rfl (Zd _)))) rfl (fun hb4 => ?y4) (fun a ha => ⟨ha, rfl⟩)
     case y4 =>
      refine Zg fun K13 hK13 => ?_
      refine Zf [3, 3] ?_
      refine Zc rfl (fun _ => Yh (Zb rfl) Zl) ?_
      refine Zc rfl (fun _ => Ze (Zb rfl)) ?_
      refine Zj [(0, _, _), (3, _, _), (14, _, _), (15, _, _)] (Za rfl (Za rfl (Za rfl (Za rfl (Zd _))))) ?_
      refine Zh (hK13 _ _ ?_)
      refine' Yk [(0, _, _), (3, _, _)] (Za rfl (Za rfl (Za rfl (Zd _)))) rfl (fun hb5 => ?y5) (fun a ha => ⟨ha, rfl⟩)
      case y5 =>
       refine Zg fun K14 hK14 => ?_
       refine Zf [3, 3] ?_
       refine Zc rfl (fun _ => Yh (Zb rfl) Zl) ?_
       refine Zc rfl (fun _ => Ze (Zb rfl)) ?_
       refine Zj [(0, _, _), (3, _, _), (14, _, _), (15, _, _)] (Za rfl (Za rfl (Za rfl (Za rfl (Zd _))))) ?_
       refine Zh (hK14 _ _ ?_)
       refine' Yk [(0, _, _), (3, _, _)] (Za rfl (Za rfl (Za rfl (Zd _)))) rfl (fun hb6 => ?y6) (fun a ha => ⟨ha, rfl⟩)
       case y6 =>
        refine Zg fun K15 hK15 => ?_
        refine Zf [3, 3] ?_
        refine Zc rfl (fun _ => Yh (Zb rfl) Zl) ?_
        refine Zc rfl (fun _ => Ze (Zb rfl)) ?_
        refine Zj [(0, _, _), (3, _, _), (14, _, _), (15, _, _)] (Za rfl (Za rfl (Za rfl (Za rfl (Zd _))))) ?_
        refine Zh (hK15 _ _ ?_)
        refine' Yk [(0, _, _), (3, _, _)] (Za rfl (Za rfl (Za rfl (Zd _)))) rfl (fun hb7 => ?y7) (fun a ha => ⟨ha, rfl⟩)
        case y7 =>
         refine Zg fun K16 hK16 => ?_
         refine Zf [3, 3] ?_
         refine Zc rfl (fun _ => Yh (Zb rfl) Zl) ?_
         refine Zc rfl (fun _ => Ze (Zb rfl)) ?_
         refine Zj [(0, _, _), (3, _, _), (14, _, _), (15, _, _)] (Za rfl (Za rfl (Za rfl (Za rfl (Zd _))))) ?_
         refine Zh (hK16 _ _ ?_)
         refine' Yk [(0, _, _), (3, _, _)] (Za rfl (Za rfl (Za rfl (Zd _)))) rfl (fun hb8 => ?y8) (fun a ha => ⟨ha, rfl⟩)
         case y8 =>
          refine Zg fun K17 hK17 => ?_
          refine Zf [3, 3] ?_
          refine Zc rfl (fun _ => Yh (Zb rfl) Zl) ?_
          refine Zc rfl (fun _ => Ze (Zb rfl)) ?_
          refine Zj [(0, _, _), (3, _, _), (14, _, _), (15, _, _)] (Za rfl (Za rfl (Za rfl (Za rfl (Zd _))))) ?_
          refine Zh (hK17 _ _ ?_)
          refine' Yk [(0, _, _), (3, _, _)] (Za rfl (Za rfl (Za rfl (Zd _)))) rfl (fun hb9 => ?y9) (fun a ha => ⟨ha, rfl⟩)
          case y9 =>
           refine Zg fun K18 hK18 => ?_
           refine Zf [3, 3] ?_
           refine Zc rfl (fun _ => Yh (Zb rfl) Zl) ?_
           refine Zc rfl (fun _ => Ze (Zb rfl)) ?_
           refine Zj [(0, _, _), (3, _, _), (14, _, _), (15, _, _)] (Za rfl (Za rfl (Za rfl (Za rfl (Zd _))))) ?_
           refine Zh (hK18 _ _ ?_)
           refine' Yk [(0, _, _), (3, _, _)] (Za rfl (Za rfl (Za rfl (Zd _)))) rfl (fun hb10 => ?y10) (fun a ha => ⟨ha, rfl⟩)
           case y10 =>
            refine Zg fun K19 hK19 => ?_
            refine Zf [3, 3] ?_
            refine Zc rfl (fun _ => Yh (Zb rfl) Zl) ?_
            refine Zc rfl (fun _ => Ze (Zb rfl)) ?_
            refine Zj [(0, _, _), (3, _, _), (14, _, _), (15, _, _)] (Za rfl (Za rfl (Za rfl (Za rfl (Zd _))))) ?_
            refine Zh (hK19 _ _ ?_)
            refine' Yk [(0, _, _), (3, _, _)] (Za rfl (Za rfl (Za rfl (Zd _)))) rfl (fun hb11 => ?y11) (fun a ha => ⟨ha, rfl⟩)
            case y11 =>
             refine Zg fun K20 hK20 => ?_
             refine Zf [3, 3] ?_
             refine Zc rfl (fun _ => Yh (Zb rfl) Zl) ?_
             refine Zc rfl (fun _ => Ze (Zb rfl)) ?_
             refine Zj [(0, _, _), (3, _, _), (14, _, _), (15, _, _)] (Za rfl (Za rfl (Za rfl (Za rfl (Zd _))))) ?_
             refine Zh (hK20 _ _ ?_)
             refine' Yk [(0, _, _), (3, _, _)] (Za rfl (Za rfl (Za rfl (Zd _)))) rfl (fun hb12 => ?y12) (fun a ha => ⟨ha, rfl⟩)
             case y12 =>
              refine Zg fun K21 hK21 => ?_
              refine Zf [3, 3] ?_
              refine Zc rfl (fun _ => Yh (Zb rfl) Zl) ?_
              refine Zc rfl (fun _ => Ze (Zb rfl)) ?_
              refine Zj [(0, _, _), (3, _, _), (14, _, _), (15, _, _)] (Za rfl (Za rfl (Za rfl (Za rfl (Zd _))))) ?_
              refine Zh (hK21 _ _ ?_)
              refine' Yk [(0, _, _), (3, _, _)] (Za rfl (Za rfl (Za rfl (Zd _)))) rfl (fun hb13 => ?y13) (fun a ha => ⟨ha, rfl⟩)
              case y13 =>
               refine Zg fun K22 hK22 => ?_
               refine Zf [3, 3] ?_
               refine Zc rfl (fun _ => Yh (Zb rfl) Zl) ?_
               refine Zc rfl (fun _ => Ze (Zb rfl)) ?_
               refine Zj [(0, _, _), (3, _, _), (14, _, _), (15, _, _)] (Za rfl (Za rfl (Za rfl (Za rfl (Zd _))))) ?_
               refine Zh (hK22 _ _ ?_)
               refine' Yk [(0, _, _), (3, _, _)] (Za rfl (Za rfl (Za rfl (Zd _)))) rfl (fun hb14 => ?y14) (fun a ha => ⟨ha, rfl⟩)
               case y14 =>
                refine Zg fun K23 hK23 => ?_
                refine Zf [3, 3] ?_
                refine Zc rfl (fun _ => Yh (Zb rfl) Zl) ?_
                refine Zc rfl (fun _ => Ze (Zb rfl)) ?_
                refine Zj [(0, _, _), (3, _, _), (14, _, _), (15, _, _)] (Za rfl (Za rfl (Za rfl (Za rfl (Zd _))))) ?_
                refine Zh (hK23 _ _ ?_)
                refine' Yk [(0, _, _), (3, _, _)] (Za rfl (Za rfl (Za rfl (Zd _)))) rfl (fun hb15 => ?y15) (fun a ha => ⟨ha, rfl⟩)
                case y15 =>
                 refine Zg fun K24 hK24 => ?_
                 refine Zf [3, 3] ?_
                 refine Zc rfl (fun _ => Yh (Zb rfl) Zl) ?_
                 refine Zc rfl (fun _ => Ze (Zb rfl)) ?_
                 refine Zj [(0, _, _), (3, _, _), (14, _, _), (15, _, _)] (Za rfl (Za rfl (Za rfl (Za rfl (Zd _))))) ?_
                 refine Zh (hK24 _ _ ?_)
                 refine' Yk [(0, _, _), (3, _, _)] (Za rfl (Za rfl (Za rfl (Zd _)))) rfl (fun hb16 => ?y16) (fun a ha => ⟨ha, rfl⟩)
                 case y16 =>
                  refine Zg fun K25 hK25 => ?_
                  refine Zf [3, 3] ?_
                  refine Zc rfl (fun _ => Yh (Zb rfl) Zl) ?_
                  refine Zc rfl (fun _ => Ze (Zb rfl)) ?_
                  refine Zj [(0, _, _), (3, _, _), (14, _, _), (15, _, _)] (Za rfl (Za rfl (Za rfl (Za rfl (Zd _))))) ?_
                  refine Zh (hK25 _ _ ?_)
                  refine' Yk [(0, _, _), (3, _, _)] (Za rfl (Za rfl (Za rfl (Zd _)))) rfl (fun hb17 => ?y17) (fun a ha => ⟨ha, rfl⟩)
                  case y17 =>
                   refine Zg fun K26 hK26 => ?_
                   refine Zf [3, 3] ?_
                   refine Zc rfl (fun _ => Yh (Zb rfl) Zl) ?_
                   refine Zc rfl (fun _ => Ze (Zb rfl)) ?_
                   refine Zj [(0, _, _), (3, _, _), (14, _, _), (15, _, _)] (Za rfl (Za rfl (Za rfl (Za rfl (Zd _))))) ?_
                   refine Zh (hK26 _ _ ?_)
                   refine' Yk [(0, _, _), (3, _, _)] (Za rfl (Za rfl (Za rfl (Zd _)))) rfl (fun hb18 => ?y18) (fun a ha => ⟨ha, rfl⟩)
                   case y18 =>
                    refine Zg fun K27 hK27 => ?_
                    refine Zf [3, 3] ?_
                    refine Zc rfl (fun _ => Yh (Zb rfl) Zl) ?_
                    refine Zc rfl (fun _ => Ze (Zb rfl)) ?_
                    refine Zj [(0, _, _), (3, _, _), (14, _, _), (15, _, _)] (Za rfl (Za rfl (Za rfl (Za rfl (Zd _))))) ?_
                    refine Zh (hK27 _ _ ?_)
                    refine' Yk [(0, _, _), (3, _, _)] (Za rfl (Za rfl (Za rfl (Zd _)))) rfl (fun hb19 => ?y19) (fun a ha => ⟨ha, rfl⟩)
                    case y19 =>
                     refine Zg fun K28 hK28 => ?_
                     refine Zf [3, 3] ?_
                     refine Zc rfl (fun _ => Yh (Zb rfl) Zl) ?_
                     refine Zc rfl (fun _ => Ze (Zb rfl)) ?_
                     refine Zj [(0, _, _), (3, _, _), (14, _, _), (15, _, _)] (Za rfl (Za rfl (Za rfl (Za rfl (Zd _))))) ?_
                     refine Zh (hK28 _ _ ?_)
                     refine' Yk [(0, _, _), (3, _, _)] (Za rfl (Za rfl (Za rfl (Zd _)))) rfl (fun hb20 => ?y20) (fun a ha => ⟨ha, rfl⟩)
                     case y20 =>
                      refine Zg fun K29 hK29 => ?_
                      refine Zf [3, 3] ?_
                      refine Zc rfl (fun _ => Yh (Zb rfl) Zl) ?_
                      refine Zc rfl (fun _ => Ze (Zb rfl)) ?_
                      refine Zj [(0, _, _), (3, _, _), (14, _, _), (15, _, _)] (Za rfl (Za rfl (Za rfl (Za rfl (Zd _))))) ?_
                      refine Zh (hK29 _ _ ?_)
                      refine' Yk [(0, _, _), (3, _, _)] (Za rfl (Za rfl (Za rfl (Zd _)))) rfl (fun hb21 => ?y21) (fun a ha => ⟨ha, rfl⟩)
                      case y21 =>
                       refine Zg fun K30 hK30 => ?_
                       refine Zf [3, 3] ?_
                       refine Zc rfl (fun _ => Yh (Zb rfl) Zl) ?_
                       refine Zc rfl (fun _ => Ze (Zb rfl)) ?_
                       refine Zj [(0, _, _), (3, _, _), (14, _, _), (15, _, _)] (Za rfl (Za rfl (Za rfl (Za rfl (Zd _))))) ?_
                       refine Zh (hK30 _ _ ?_)
                       refine' Yk [(0, _, _), (3, _, _)] (Za rfl (Za rfl (Za rfl (Zd _)))) rfl (fun hb22 => ?y22) (fun a ha => ⟨ha, rfl⟩)
                       case y22 =>
                        refine Zg fun K31 hK31 => ?_
                        refine Zf [3, 3] ?_
                        refine Zc rfl (fun _ => Yh (Zb rfl) Zl) ?_
                        refine Zc rfl (fun _ => Ze (Zb rfl)) ?_
                        refine Zj [(0, _, _), (3, _, _), (14, _, _), (15, _, _)] (Za rfl (Za rfl (Za rfl (Za rfl (Zd _))))) ?_
                        refine Zh (hK31 _ _ ?_)
                        refine' Yk [(0, _, _), (3, _, _)] (Za rfl (Za rfl (Za rfl (Zd _)))) rfl (fun hb23 => ?y23) (fun a ha => ⟨ha, rfl⟩)
                        case y23 =>
                         refine Zg fun K32 hK32 => ?_
                         refine Zf [3, 3] ?_
                         refine Zc rfl (fun _ => Yh (Zb rfl) Zl) ?_
                         refine Zc rfl (fun _ => Ze (Zb rfl)) ?_
                         refine Zj [(0, _, _), (3, _, _), (14, _, _), (15, _, _)] (Za rfl (Za rfl (Za rfl (Za rfl (Zd _))))) ?_
                         refine Zh (hK32 _ _ ?_)
                         refine' Yk [(0, _, _), (3, _, _)] (Za rfl (Za rfl (Za rfl (Zd _)))) rfl (fun hb24 => ?y24) (fun a ha => ⟨ha, rfl⟩)
                         case y24 =>
                          refine Zg fun K33 hK33 => ?_
                          refine Zf [3, 3] ?_
                          refine Zc rfl (fun _ => Yh (Zb rfl) Zl) ?_
                          refine Zc rfl (fun _ => Ze (Zb rfl)) ?_
                          refine Zj [(0, _, _), (3, _, _), (14, _, _), (15, _, _)] (Za rfl (Za rfl (Za rfl (Za rfl (Zd _))))) ?_
                          refine Zh (hK33 _ _ ?_)
                          refine' Yk [(0, _, _), (3, _, _)] (Za rfl (Za rfl (Za rfl (Zd _)))) rfl (fun hb25 => ?y25) (fun a ha => ⟨ha, rfl⟩)
                          case y25 =>
                           refine Zg fun K34 hK34 => ?_
                           refine Zf [3, 3] ?_
                           refine Zc rfl (fun _ => Yh (Zb rfl) Zl) ?_
                           refine Zc rfl (fun _ => Ze (Zb rfl)) ?_
                           refine Zj [(0, _, _), (3, _, _), (14, _, _), (15, _, _)] (Za rfl (Za rfl (Za rfl (Za rfl (Zd _))))) ?_
                           refine Zh (hK34 _ _ ?_)
                           refine' Yk [(0, _, _), (3, _, _)] (Za rfl (Za rfl (Za rfl (Zd _)))) rfl (fun hb26 => ?y26) (fun a ha => ⟨ha, rfl⟩)
                           case y26 =>
                            refine Zg fun K35 hK35 => ?_
                            refine Zf [3, 3] ?_
                            refine Zc rfl (fun _ => Yh (Zb rfl) Zl) ?_
                            refine Zc rfl (fun _ => Ze (Zb rfl)) ?_
                            refine Zj [(0, _, _), (3, _, _), (14, _, _), (15, _, _)] (Za rfl (Za rfl (Za rfl (Za rfl (Zd _))))) ?_
                            refine Zh (hK35 _ _ ?_)
                            refine' Yk [(0, _, _), (3, _, _)] (Za rfl (Za rfl (Za rfl (Zd _)))) rfl (fun hb27 => ?y27) (fun a ha => ⟨ha, rfl⟩)
                            case y27 =>
                             refine Zg fun K36 hK36 => ?_
                             refine Zf [3, 3] ?_
                             refine Zc rfl (fun _ => Yh (Zb rfl) Zl) ?_
                             refine Zc rfl (fun _ => Ze (Zb rfl)) ?_
                             refine Zj [(0, _, _), (3, _, _), (14, _, _), (15, _, _)] (Za rfl (Za rfl (Za rfl (Za rfl (Zd _))))) ?_
                             refine Zh (hK36 _ _ ?_)
                             refine' Yk [(0, _, _), (3, _, _)] (Za rfl (Za rfl (Za rfl (Zd _)))) rfl (fun hb28 => ?y28) (fun a ha => ⟨ha, rfl⟩)
                             case y28 =>
                              refine Zf [3, 3] ?_
                              refine Zc rfl (fun _ => Yh (Zb rfl) Zl) ?_
                              refine Zc rfl (fun _ => Ze (Zb rfl)) ?_
                              refine Zj [(15, _, _), (0, _, _), (3, _, _)] (Za rfl (Za rfl (Za rfl (Zd _)))) ?_
                              exact Zh (fun a ha => ⟨ha, rfl⟩)
    case n3 =>
     refine Zz (Zb rfl) (fun h29 => ?_) (fun h29 => ?_)
     · have hin : inB opsL (l.take n) = true := by
         simp only [inB, opsL, List.any_cons, List.any_nil, Bool.or_false]; exact h29
       have hk : (decide (n ≤ l.length) && inB opsL (l.take n)) = true := by rw [decide_eq_true hlen, hin]; rfl
       have hN : opLenR l = n := by
         unfold opLenR
         by_cases e : n = 2
         · subst e; rw [hk]; rfl
         · have e1 : n = 1 := by omega
           have e2 := hm 2 (by omega) (by omega)
           subst e1; rw [hk, e2]; rfl
       refine Zg fun K37 hK37 => ?_
       refine Zf [3, 3, 3, 3] ?_
       refine Zc rfl (fun _ => Zi (Zb rfl)) ?_
       refine Zc rfl (fun _ => Zi (Zb rfl)) ?_
       refine Zc rfl (fun _ => Wsb Yv (Zb rfl) (Zb rfl) (fun _ => by omega)) ?_
       refine Zc rfl (fun _ => Ze (Zb rfl)) ?_
       refine Zj [(0, _, _), (2, _, _), (3, _, _)] (Za rfl (Za rfl (Za rfl (Zd _)))) ?_
       refine Zh (hK37 _ _ ?_)
       refine Yf (Yj rfl rfl ?_)
       refine ⟨?_, g⟩; rw [hN]; rfl
     have hk : (decide (n ≤ l.length) && inB opsL (l.take n)) = false := by
       have hin : inB opsL (l.take n) = false := by simp only [inB, opsL, List.any_cons, List.any_nil, Bool.or_false]; exact h29
       rw [hin, Bool.and_false]
     refine Yq (hK6 _ _ ?_)
     refine Yi [(0, _, _), (3, _, _)] (Za rfl (Za rfl (Zd _))) ?_
     refine Zf [3, 3, 3] ?_
     refine Zc rfl (fun _ => Zi (Zb rfl)) ?_
     refine Zc rfl (fun _ => Jab (r := ((n - 1 : Nat) : Int)) (Zb rfl) Zl (fun hc => (by rw [Jlb ⟨by omega, by omega⟩]; omega))) ?_
     refine Zc rfl (fun _ => Ze (Zb rfl)) ?_
     refine Zj [(0, _, _), (3, _, _)] (Za rfl (Za rfl (Zd _))) ?_
     refine Zh (fun a ha => ?_)
     refine ⟨n - 1, ha, ⟨by omega, ?_, g⟩, by omega⟩
     intro m h1 h2
     by_cases e : m = n
     · rw [e]; exact hk
     · exact hm m (by omega) h2
  have hn0 : n = 0 := by simp only [decide_eq_false_iff_not] at h1; omega
  have e1 := hm 1 (by omega) (by omega)
  have e2 := hm 2 (by omega) (by omega)
  have hN : opLenR l = 0 := by unfold opLenR; rw [e1, e2]; rfl
  refine Wa rfl (hK2 _ _ ?_)
  refine Yi [] (Zd _) ?_
  refine Zg fun K38 hK38 => ?_
  refine Zf [3] ?_
  refine Zc rfl (fun _ => Ze Zl) ?_
  refine Zh (hK38 _ _ ?_)
  refine Yf (Yj rfl rfl ?_)
  refine ⟨?_, g⟩; rw [hN]; rfl
theorem ends_ok (t : Tok) (w : World) : Ret PP fn_r02_ends #[.agg (tokCells t).toArray] w fun v w' => v = .bool (endsT t) ∧ G w w' := by
  have g := G.refl w
  refine Ym (m := 25) func_r02_ends rfl rfl [(0, True, _)] (Za rfl (Zd _)) ?_
  refine Zg fun K1 hK1 => ?_
  refine Zf [1, 3] ?_
  refine Wd rfl (Zb rfl) rfl ?_
  intro b1 w1 N1
  have l1 := N1.ge g
  have g := g.trans (N1.g)
  have B1 := N1.blk
  refine Zc rfl (fun _ => Ze Zl) ?_
  refine Zj [(1, _, _), (2, _, _)] (Za rfl (Za rfl (Zd _))) ?_
  refine Zh (hK1 _ _ ?_)
  refine Zg fun K2 hK2 => ?_
  refine Zg fun K3 hK3 => ?_
  refine Zf [3, 0] ?_
  refine Zc rfl (fun _ => Zm Qd (Zb rfl)) ?_
  refine Ya rfl (Zt Yy (Zb rfl) (fun _ => B1.at_ rfl)) ?_
  refine Zj [(1, _, _), (2, _, _), (4, _, _)] (Za rfl (Za rfl (Za rfl (Zd _)))) ?_
  refine Zh (hK3 _ _ ?_)
  refine Yp ?_
  refine Zg fun K4 hK4 => ?_
  refine Zg fun K5 hK5 => ?_
  refine Zf [3, 3] ?_
  refine Zc rfl (fun _ => Yg (Zb rfl) Zl) ?_
  refine Zc rfl (fun _ => Ze (Zb rfl)) ?_
  refine Zj [(1, _, _), (2, _, _), (4, _, _), (5, _, _)] (Za rfl (Za rfl (Za rfl (Za rfl (Zd _))))) ?_
  refine Zh (hK5 _ _ ?_)
  refine' Yk [(1, _, _), (2, _, _)] (Za rfl (Za rfl (Za rfl (Zd _)))) rfl (fun hb1 => ?y1) (hK4 _ _ ?n1)
  case y1 =>
   refine Zf [3, 3] ?_
   refine Zc rfl (fun _ => Yg (Zb rfl) Zl) ?_
   refine Zc rfl (fun _ => Ze (Zb rfl)) ?_
   refine Zj [(5, _, _), (1, _, _), (2, _, _)] (Za rfl (Za rfl (Za rfl (Zd _)))) ?_
   exact Zh (fun a ha => ⟨ha, rfl⟩)
  case n1 =>
   refine Zz (Zb rfl) (fun h2 => ?_) (fun h2 => ?_)
   · (try simp only [bsimp] at h2)
     refine Zg fun K6 hK6 => ?_
     refine Zf [3] ?_
     refine Zc rfl (fun _ => Ze Zl) ?_
     refine Zj [(1, _, _), (2, _, _)] (Za rfl (Za rfl (Zd _))) ?_
     refine Zh (hK6 _ _ ?_)
     refine Yf (Yj rfl rfl ?_)
     refine ⟨?_, g⟩; rw [endsT, h2]; rfl
   (try simp only [bsimp] at h2)
   refine Yq (hK2 _ _ ?_)
   refine Yi [(1, _, _), (2, _, _)] (Za rfl (Za rfl (Zd _))) ?_
   refine Zg fun K7 hK7 => ?_
   refine Zg fun K8 hK8 => ?_
   refine Zf [3, 0] ?_
   refine Zc rfl (fun _ => Zm Vz (Zb rfl)) ?_
   refine Ya rfl (Zt Yt (Zb rfl) (fun _ => B1.at_ rfl)) ?_
   refine Zh (hK8 _ _ ?_)
   refine Yp ?_
   refine Zg fun K9 hK9 => ?_
   refine Zg fun K10 hK10 => ?_
   refine Zf [3, 3] ?_
   refine Zc rfl (fun _ => Yh (Zb rfl) Zl) ?_
   refine Zc rfl (fun _ => Ze (Zb rfl)) ?_
   refine Zh (hK10 _ _ ?_)
   refine Yi [(1, _, _), (2, _, _), (8, _, _), (9, _, _), (10, _, _), (11, _, _)] (Za rfl (Za rfl (Za rfl (Za rfl (Za rfl (Za rfl (Zd _))))))) ?_
   refine' Yk [(1, _, _), (2, _, _), (8, _, _), (9, _, _), (11, _, _)] (Za rfl (Za rfl (Za rfl (Za rfl (Za rfl (Za rfl (Zd _))))))) rfl (fun hb3 => ?y3) (hK9 _ _ ?n3)
   case y3 =>
    refine Zg fun K11 hK11 => ?_
    refine Zf [3, 3] ?_
    refine Zc rfl (fun _ => Yh (Zb rfl) Zl) ?_
    refine Zc rfl (fun _ => Ze (Zb rfl)) ?_
    refine Zj [(1, _, _), (2, _, _), (8, _, _), (9, _, _), (10, _, _), (11, _, _)] (Za rfl (Za rfl (Za rfl (Za rfl (Za rfl (Za rfl (Zd _))))))) ?_
    refine Zh (hK11 _ _ ?_)
    refine' Yk [(1, _, _), (2, _, _), (8, _, _), (9, _, _), (11, _, _)] (Za rfl (Za rfl (Za rfl (Za rfl (Za rfl (Za rfl (Zd _))))))) rfl (fun hb4 => ?y4) (fun a ha => ⟨ha, rfl⟩)
    case y4 =>
     refine Zg fun K12 hK12 => ?_
     refine Zf [3, 3] ?_
     refine Zc rfl (fun _ => Yh (Zb rfl) Zl) ?_
     refine Zc rfl (fun _ => Ze (Zb rfl)) ?_
     refine Zj [(1, _, _), (2, _, _), (8, _, _), (9, _, _), (10, _, _), (11, _, _)] (Za rfl (Za rfl (Za rfl (Za rfl (Za rfl (Za rfl (Zd _))))))) ?_
     refine Zh (hK12 _ _ ?_)
     refine' Yk [(1, _, _), (2, _, _), (8, _, _), (9, _, _), (11, _, _)] (Za rfl (Za rfl (Za rfl (Za rfl (Za rfl (Za rfl (Zd _))))))) rfl (fun hb5 => ?y5) (fun a ha => ⟨ha, rfl⟩)
     case y5 =>
      refine Zg fun K13 hK13 => ?_
      refine Zf [3, 3] ?_
      refine Zc rfl (fun _ => Yh (Zb rfl) Zl) ?_
      refine Zc rfl (fun _ => Ze (Zb rfl)) ?_
      refine Zj [(1, _, _), (2, _, _), (8, _, _), (9, _, _), (10, _, _), (11, _, _)] (Za rfl (Za rfl (Za rfl (Za rfl (Za rfl (Za rfl (Zd _))))))) ?_
      refine Zh (hK13 _ _ ?_)
      refine' Yk [(1, _, _), (2, _, _), (8, _, _), (9, _, _), (11, _, _)] (Za rfl (Za rfl (Za rfl (Za rfl (Za rfl (Za rfl (Zd _))))))) rfl (fun hb6 => ?y6) (fun a ha => ⟨ha, rfl⟩)
      case y6 =>
       refine Zg fun K14 hK14 => ?_
       refine Zf [3, 3] ?_
       refine Zc rfl (fun _ => Yh (Zb rfl) Zl) ?_
       refine Zc rfl (fun _ => Ze (Zb rfl)) ?_
       refine Zj [(1, _, _), (2, _, _), (8, _, _), (9, _, _), (10, _, _), (11, _, _)] (Za rfl (Za rfl (Za rfl (Za rfl (Za rfl (Za rfl (Zd _))))))) ?_
       refine Zh (hK14 _ _ ?_)
       refine' Yk [(1, _, _), (2, _, _), (8, _, _), (9, _, _), (11, _, _)] (Za rfl (Za rfl (Za rfl (Za rfl (Za rfl (Za rfl (Zd _))))))) rfl (fun hb7 => ?y7) (fun a ha => ⟨ha, rfl⟩)
       case y7 =>
        refine Zg fun K15 hK15 => ?_
        refine Zf [3, 3] ?_
        refine Zc rfl (fun _ => Yh (Zb rfl) Zl) ?_
        refine Zc rfl (fun _ => Ze (Zb rfl)) ?_
        refine Zj [(1, _, _), (2, _, _), (8, _, _), (9, _, _), (10, _, _), (11, _, _)] (Za rfl (Za rfl (Za rfl (Za rfl (Za rfl (Za rfl (Zd _))))))) ?_
        refine Zh (hK15 _ _ ?_)
        refine' Yk [(1, _, _), (2, _, _), (8, _, _), (9, _, _), (11, _, _)] (Za rfl (Za rfl (Za rfl (Za rfl (Za rfl (Za rfl (Zd _))))))) rfl (fun hb8 => ?y8) (fun a ha => ⟨ha, rfl⟩)
        case y8 =>
         refine Zg fun K16 hK16 => ?_
         refine Zf [3, 3] ?_
         refine Zc rfl (fun _ => Yh (Zb rfl) Zl) ?_
         refine Zc rfl (fun _ => Ze (Zb rfl)) ?_
         refine Zj [(1, _, _), (2, _, _), (8, _, _), (9, _, _), (10, _, _), (11, _, _)] (Za rfl (Za rfl (Za rfl (Za rfl (Za rfl (Za rfl (Zd _))))))) ?_
         refine Zh (hK16 _ _ ?_)
         refine' Yk [(1, _, _), (2, _, _), (8, _, _), (9, _, _), (11, _, _)] (Za rfl (Za rfl (Za rfl (Za rfl (Za rfl (Za rfl (Zd _))))))) rfl (fun hb9 => ?y9) (fun a ha => ⟨ha, rfl⟩)
         case y9 =>
          refine Zg fun K17 hK17 => ?_
          refine Zf [3, 3] ?_
          refine Zc rfl (fun _ => Yh (Zb rfl) Zl) ?_
          refine Zc rfl (fun _ => Ze (Zb rfl)) ?_
          refine Zj [(1, _, _), (2, _, _), (8, _, _), (9, _, _), (10, _, _), (11, _, _)] (Za rfl (Za rfl (Za rfl (Za rfl (Za rfl (Za rfl (Zd _))))))) ?_
          refine Zh (hK17 _ _ ?_)
          refine' Yk [(1, _, _), (2, _, _), (8, _, _), (9, _, _), (11, _, _)] (Za rfl (Za rfl (Za rfl (Za rfl (Za rfl (Za rfl (Zd _))))))) rfl (fun hb10 => ?y10) (fun a ha => ⟨ha, rfl⟩)
          case y10 =>
           refine Zg fun K18 hK18 => ?_
           refine Zf [3, 3] ?_
           refine Zc rfl (fun _ => Yh (Zb rfl) Zl) ?_
           refine Zc rfl (fun _ => Ze (Zb rfl)) ?_
           refine Zj [(1, _, _), (2, _, _), (8, _, _), (9, _, _), (10, _, _), (11, _, _)] (Za rfl (Za rfl (Za rfl (Za rfl (Za rfl (Za rfl (Zd _))))))) ?_
           refine Zh (hK18 _ _ ?_)
           refine' Yk [(1, _, _), (2, _, _), (8, _, _), (9, _, _), (11, _, _)] (Za rfl (Za rfl (Za rfl (Za rfl (Za rfl (Za rfl (Zd _))))))) rfl (fun hb11 => ?y11) (fun a ha => ⟨ha, rfl⟩)
           case y11 =>
            refine Zg fun K19 hK19 => ?_
            refine Zf [3, 3] ?_
            refine Zc rfl (fun _ => Yh (Zb rfl) Zl) ?_
            refine Zc rfl (fun _ => Ze (Zb rfl)) ?_
            refine Zj [(1, _, _), (2, _, _), (8, _, _), (9, _, _), (10, _, _), (11, _, _)] (Za rfl (Za rfl (Za rfl (Za rfl (Za rfl (Za rfl (Zd _))))))) ?_
            refine Zh (hK19 _ _ ?_)
            refine' Yk [(1, _, _), (2, _, _), (8, _, _), (9, _, _), (11, _, _)] (Za rfl (Za rfl (Za rfl (Za rfl (Za rfl (Za rfl (Zd _))))))) rfl (fun hb12 => ?y12) (fun a ha => ⟨ha, rfl⟩)
            case y12 =>
             refine Zg fun K20 hK20 => ?_
             refine Zf [3, 3] ?_
             refine Zc rfl (fun _ => Yh (Zb rfl) Zl) ?_
             refine Zc rfl (fun _ => Ze (Zb rfl)) ?_
             refine Zj [(1, _, _), (2, _, _), (8, _, _), (9, _, _), (10, _, _), (11, _, _)] (Za rfl (Za rfl (Za rfl (Za rfl (Za rfl (Za rfl (Zd _))))))) ?_
             refine Zh (hK20 _ _ ?_)
             refine' Yk [(1, _, _), (2, _, _), (8, _, _), (9, _, _), (11, _, _)] (Za rfl (Za rfl (Za rfl (Za rfl (Za rfl (Za rfl (Zd _))))))) rfl (fun hb13 => ?y13) (fun a ha => ⟨ha, rfl⟩)
             case y13 =>
              refine Zg fun K21 hK21 => ?_
              refine Zf [3, 3] ?_
              refine Zc rfl (fun _ => Yh (Zb rfl) Zl) ?_
              refine Zc rfl (fun _ => Ze (Zb rfl)) ?_
              refine Zj [(1, _, _), (2, _, _), (8, _, _), (9, _, _), (10, _, _), (11, _, _)] (Za rfl (Za rfl (Za rfl (Za rfl (Za rfl (Za rfl (Zd _))))))) ?_
              refine Zh (hK21 _ _ ?_)
              refine' Yk [(1, _, _), (2, _, _), (8, _, _), (9, _, _), (11, _, _)] (Za rfl (Za rfl (Za rfl (Za rfl (Za rfl (Za rfl (Zd _))))))) rfl (fun hb14 => ?y14) (fun a ha => ⟨ha, rfl⟩)
              case y14 =>
               refine Zg fun K22 hK22 => ?_
               refine Zf [3, 3] ?_
               refine Zc rfl (fun _ => Yh (Zb rfl) Zl) ?_
               refine Zc rfl (fun _ => Ze (Zb rfl)) ?_
               refine Zj [(1, _, _), (2, _, _), (8, _, _), (9, _, _), (10, _, _), (11, _, _)] (Za rfl (Za rfl (Za rfl (Za rfl (Za rfl (Za rfl (Zd _))))))) ?_
               refine Zh (hK22 _ _ ?_)
               refine' Yk [(1, _, _), (2, _, _), (8, _, _), (9, _, _), (11, _, _)] (Za rfl (Za rfl (Za rfl (Za rfl (Za rfl (Za rfl (Zd _))))))) rfl (fun hb15 => ?y15) (fun a ha => ⟨ha, rfl⟩)
               case y15 =>
                refine Zf [3, 3] ?_
                refine Zc rfl (fun _ => Yh (Zb rfl) Zl) ?_
                refine Zc rfl (fun _ => Ze (Zb rfl)) ?_
                refine Zj [(10, _, _), (1, _, _), (2, _, _), (8, _, _), (9, _, _), (11, _, _)] (Za rfl (Za rfl (Za rfl (Za rfl (Za rfl (Za rfl (Zd _))))))) ?_
                exact Zh (fun a ha => ⟨ha, rfl⟩)
   case n3 =>
    refine Zz (Zb rfl) (fun h16 => ?_) (fun h16 => ?_)
    · (try simp only [bsimp] at h16)
      refine Zg fun K23 hK23 => ?_
      refine Zf [3] ?_
      refine Zc rfl (fun _ => Ze Zl) ?_
      refine Zh (hK23 _ _ ?_)
      refine Yi [(1, _, _), (2, _, _), (8, _, _), (9, _, _), (10, _, _), (11, _, _)] (Za rfl (Za rfl (Za rfl (Za rfl (Za rfl (Za rfl (Zd _))))))) ?_
      refine Yf (Yj rfl rfl ?_)
      refine ⟨?_, g⟩; rw [endsT, h2]; simp only [inB, endw, List.any_cons, List.any_nil, Bool.or_false, Bool.false_or]; rw [h16]
    (try simp only [bsimp] at h16)
    refine Yq (hK7 _ _ ?_)
    refine Yi [(1, _, _), (2, _, _), (8, _, _), (9, _, _), (10, _, _), (11, _, _)] (Za rfl (Za rfl (Za rfl (Za rfl (Za rfl (Za rfl (Zd _))))))) ?_
    refine Zg fun K24 hK24 => ?_
    refine Zf [3] ?_
    refine Zc rfl (fun _ => Ze Zl) ?_
    refine Zh (hK24 _ _ ?_)
    refine Yf (Yj rfl rfl ?_)
    refine ⟨?_, g⟩; rw [endsT, h2]; simp only [inB, endw, List.any_cons, List.any_nil, Bool.or_false, Bool.false_or]; rw [h16]
theorem Xbc {q : Int → Bool} {s : List UInt8} {p n : Nat} (h : (decide (((p + n : Nat) : Int) < s.length) && q (cAt s (p + n))) = true) (he : runN q (s.drop p) = n + runN q (s.drop (p + n))) : p + (n + 1) ≤ s.length ∧ runN q (s.drop p) = (n + 1) + runN q (s.drop (p + (n + 1))) := by
  simp only [Bool.and_eq_true, decide_eq_true_eq] at h
  have h1 : p + n < s.length := by omega
  have := Vjb (q := q) h1 h.2
  exact ⟨by omega, by rw [he, this, Nat.add_assoc p n 1]; omega⟩
theorem Xcc {q : Int → Bool} {s : List UInt8} {p n : Nat} (h : (decide (((p + n : Nat) : Int) < s.length) && q (cAt s (p + n))) = false) (he : runN q (s.drop p) = n + runN q (s.drop (p + n))) : n = runN q (s.drop p) := by
  have : runN q (s.drop (p + n)) = 0 := runN_stop fun hk => by
    rw [decide_eq_true (by omega : ((p + n : Nat) : Int) < s.length), Bool.true_and] at h
    exact h
  omega
def nextR (s : List UInt8) (p : Nat) : Tok × Int :=
  bif letterB (cAt s p) then (⟨wordK ((s.drop p).take (runN isAlnum (s.drop p))), (s.drop p).take (runN isAlnum (s.drop p)), p⟩, bif decide ((32 : Int) < runN isAlnum (s.drop p)) then 3 else 0)
  else bif digitB (cAt s p) then bif (!intOk ((s.drop p).take (runN digitB (s.drop p)))) || (decide ((p : Int) + runN digitB (s.drop p) < s.length) && letterB (cAt s (p + runN digitB (s.drop p)))) then (⟨0, [], 0⟩, 4)
    else (⟨2, (s.drop p).take (runN digitB (s.drop p)), p⟩, 0)
  else bif (decide (cAt s p = 47) && decide ((p : Int) + 1 < s.length)) && decide (cAt s (p + 1) = 47) then (⟨5, (s.drop p).take (runN isNotLf (s.drop p)), p⟩, 0)
  else bif decide ((s.drop p).take (opLenR (s.drop p)) = []) then (⟨0, [], 0⟩, 4)
  else (⟨4, (s.drop p).take (opLenR (s.drop p)), p⟩, 0)
theorem rnext_ok (s : List UInt8) (p : Nat) (hp : p < s.length) (k4 : s.length ≤ 20000) (w : World) : Ret PP fn_r02_next #[Str s, .int .i64 p] w fun v w' => v = .tuple #[.agg (tokCells (nextR s p).1).toArray, .int .i64 (nextR s p).2] ∧ G w w' := by
  have g := G.refl w
  refine Ym (m := 144) func_r02_next rfl rfl [(0, True, _), (1, True, _)] (Za rfl (Za rfl (Zd _))) ?_
  refine Zg fun K1 hK1 => ?_
  refine Zf [1, 3] ?_
  refine Xr rfl Xn rfl ?_
  intro b4 w4 N4
  have l4 := N4.ge g
  have g := g.trans (N4.g)
  have B4 := N4.blk
  refine Zc rfl (fun _ => Ze Zl) ?_
  refine Zh (hK1 _ _ ?_)
  refine Zg fun K2 hK2 => ?_
  refine Zf [3, 3] ?_
  refine Zc rfl (fun _ => Zi (Zb rfl)) ?_
  refine Zc rfl (fun _ => Ze (Zb rfl)) ?_
  refine Zj [(0, _, _), (1, _, _), (4, _, _), (5, _, _), (6, _, _)] (Za rfl (Za rfl (Za rfl (Za rfl (Za rfl (Zd _)))))) ?_
  refine Zh (hK2 _ _ ?_)
  refine Zg fun K3 hK3 => ?_
  refine Yp ?_
  refine Zg fun K4 hK4 => ?_
  refine Zf [3, 3, 3, 1, 3] ?_
  refine Zc rfl (fun _ => Zi (Zb rfl)) ?_
  refine Zc rfl (fun _ => Zi (Zb rfl)) ?_
  refine Zc rfl (fun _ => Uf Yv (Zb rfl) (Zb rfl) (fun _ => by omega)) ?_
  refine Xe rfl (Zu Jj Yl (Zk (Zb rfl) (Zn)) rfl) (Xab _ _) (fun w16 g16 => ?_)
  have g := g.trans (g16)
  replace B4 := B4.grow (g16)
  refine Zc rfl (fun _ => Ze (Zb rfl)) ?_
  refine Zj [(0, _, _), (1, _, _), (4, _, _), (5, _, _), (6, _, _), (12, _, _)] (Za rfl (Za rfl (Za rfl (Za rfl (Za rfl (Za rfl (Zd _))))))) ?_
  refine Zh (hK4 _ _ ?_)
  refine Zz (Zb rfl) (fun h1 => ?_) (fun h1 => ?_)
  · skip
    replace h1 : letterB (cAt s p) = true := h1
    refine Zg fun K5 hK5 => ?_
    refine Yp ?_
    refine Zba (fun (n : Nat) u => p + n ≤ s.length ∧ runN isAlnum (s.drop p) = n + runN isAlnum (s.drop (p + n)) ∧ G w u ∧ Blk u b4 Vf [.int .i64 0, .string ⟨#[]⟩, .int .i64 0]) (fun n => [(0, True, Str s), (1, True, .int .i64 p), (4, True, .pointer (some ⟨b4, 0, none⟩)), (6, True, .int .i64 (p + n : Nat))]) (fun n => s.length - n) 0 ⟨by omega, by simp, g, B4⟩ (Za rfl (Za rfl (Za rfl (Za rfl (Zd _))))) ?_
    rintro n u ⟨hn, he, g, B4⟩
    refine Zg fun K6 hK6 => ?_
    refine Zg fun K7 hK7 => ?_
    refine Zf [3, 3, 3, 3, 3, 3, 3, 3, 1, 3, 3, 3, 3, 1, 3, 3] ?_
    refine Zc rfl (fun _ => Zi (Zb rfl)) ?_
    refine Zc rfl (fun _ => Zi (Zb rfl)) ?_
    refine Zc rfl (fun _ => Wz Yv (Zb rfl)) ?_
    refine Zc rfl (fun _ => Vh (Zb rfl) (Zb rfl)) ?_
    refine Zc rfl (fun _ => Zi (Zb rfl)) ?_
    refine Zs rfl rfl rfl (fun _ => Zi (Zb rfl)) ?_
    refine Zs rfl rfl rfl (fun _ => Zi (Zb rfl)) ?_
    refine Zs rfl rfl rfl (fun _ => Uf Yv (Zy rfl id) (Zy rfl id) (fun hc => by have := of_decide_eq_true hc.2; omega)) ?_
    refine Xb rfl rfl rfl (fun _ => (Zu Jj Yl (Zk (Zy rfl id) (Zn)) rfl)) (fun hc => Xab _ _) (fun w25 g25 => ?_)
    have g := g.trans (g25)
    replace B4 := B4.grow (g25)
    refine Zs rfl rfl rfl (fun _ => Zi (Zy rfl id)) ?_
    refine Zs rfl rfl rfl (fun _ => Zi (Zb rfl)) ?_
    refine Zs rfl rfl rfl (fun _ => Zi (Zb rfl)) ?_
    refine Zs rfl rfl rfl (fun _ => Uf Yv (Zy rfl id) (Zy rfl id) (fun hc => by have := of_decide_eq_true hc.1.2; omega)) ?_
    refine Xb rfl rfl rfl (fun _ => (Zu Zga Yl (Zk (Zy rfl id) (Zn)) rfl)) (fun hc => Zmb _ _) (fun w30 g30 => ?_)
    have g := g.trans (g30)
    replace B4 := B4.grow (g30)
    refine Zs rfl rfl rfl (fun _ => Yz (Zy rfl id) (Zy rfl id)) ?_
    refine Zc rfl (fun _ => Ye (Zb rfl) (Zy rfl id)) ?_
    refine Zj [(0, _, _), (1, _, _), (4, _, _), (6, _, _), (32, _, _)] (Za rfl (Za rfl (Za rfl (Za rfl (Za rfl (Zd _)))))) ?_
    refine Zh (hK7 _ _ ?_)
    refine Zz (Zb rfl) (fun h2 => ?_) (fun h2 => ?_)
    · skip
      have hm := Xbc (q := isAlnum) h2 he
      refine Yq (hK6 _ _ ?_)
      refine Yi [(0, _, _), (1, _, _), (4, _, _), (6, _, _)] (Za rfl (Za rfl (Za rfl (Za rfl (Zd _))))) ?_
      refine Yp ?_
      refine Zf [3, 3, 3] ?_
      refine Zc rfl (fun _ => Zi (Zb rfl)) ?_
      refine Zc rfl (fun _ => Xq (Zb rfl) Zl (fun _ => by omega)) ?_
      refine Zc rfl (fun _ => Ze (Zb rfl)) ?_
      refine Zj [(0, _, _), (1, _, _), (4, _, _), (6, _, _)] (Za rfl (Za rfl (Za rfl (Za rfl (Zd _))))) ?_
      refine Zh (fun a ha => ?_)
      exact ⟨n + 1, ha, ⟨hm.1, hm.2, g, B4⟩, by omega⟩
    skip
    obtain rfl := Xcc (q := isAlnum) h2 he
    have e : (((p + runN isAlnum (s.drop p) : Nat) : Int)).toNat - (p : Int).toNat = runN isAlnum (s.drop p) := by omega
    have hlen : ((s.drop p).take (runN isAlnum (s.drop p))).length = runN isAlnum (s.drop p) := by rw [List.length_take, List.length_drop]; omega
    refine Wa rfl (hK5 _ _ ?_)
    refine Yi [(0, _, _), (1, _, _), (4, _, _), (6, _, _)] (Za rfl (Za rfl (Za rfl (Za rfl (Zd _))))) ?_
    refine Zg fun K8 hK8 => ?_
    refine Zf [3, 3, 3, 3, 3, 3, 1, 2] ?_
    refine Zc rfl (fun _ => Zi (Zb rfl)) ?_
    refine Zc rfl (fun _ => Zi (Zb rfl)) ?_
    refine Zc rfl (fun _ => Zi (Zb rfl)) ?_
    refine Zc rfl (fun _ => Qoa Yv (Zb rfl) (Zb rfl) (Zb rfl) (fun _ => by omega)) ?_
    rw [e]
    refine Zc rfl (fun _ => Zi (Zb rfl)) ?_
    refine Zc rfl (fun _ => We [_, _, _] Xn rfl Vw (Zp Zl (Zp (Zb rfl) (Zp (Zb rfl) (Yc)))) rfl) ?_
    refine Xr rfl Xn rfl ?_
    intro b7 w7 N7
    have x7_4 := N7.ne B4
    have l7 := N7.ge g
    have g := g.trans (N7.g)
    replace B4 := B4.grow (N7.g)
    have B7 := N7.blk
    refine Yu rfl Vg (Zb rfl) (Zb rfl) rfl rfl B7 rfl rfl ?_
    intro wS1 hgS1 hzS1
    clear B7
    intro B7
    replace B4 := B4.keep hgS1 (by intro h; injection h with h; first | exact x7_4 h.symm | exact x4_7 h | omega)
    have g := Xo g hgS1 (by intro k hk; injection hk with hk; omega)
    refine Zh (hK8 _ _ ?_)
    refine Yi [(0, _, _), (1, _, _), (4, _, _), (6, _, _), (7, _, _), (35, _, _), (36, _, _), (37, _, _), (38, _, _), (39, _, _), (40, _, _)] (Za rfl (Za rfl (Za rfl (Za rfl (Za rfl (Za rfl (Za rfl (Za rfl (Za rfl (Za rfl (Za rfl (Zd _)))))))))))) ?_
    refine Zg fun K9 hK9 => ?_
    refine Zg fun K10 hK10 => ?_
    refine Zf [3, 0, 1] ?_
    refine Zc rfl (fun _ => Zm Vz (Zb rfl)) ?_
    refine Ya rfl (Zt Yt (Zb rfl) (fun _ => B7.at_ rfl)) ?_
    refine Xe rfl (Zu Qza Yl (Zk (Zb rfl) (Zn)) rfl) (Uhb _ _) (fun w43 g43 => ?_)
    have g := g.trans (g43)
    replace B4 := B4.grow (g43)
    replace B7 := B7.grow (g43)
    refine Zh (hK10 _ _ ?_)
    refine Zz (Zb rfl) (fun h3 => ?_) (fun h3 => ?_)
    · skip
      replace h3 : inB kws ((s.drop p).take (runN isAlnum (s.drop p))) = true := h3
      refine Zf [3, 2] ?_
      refine Zc rfl (fun _ => Zm Qd (Zb rfl)) ?_
      refine Jg rfl Yxa (Zb rfl) Zl rfl B7 rfl rfl ?_
      intro wS2 hgS2 hzS2
      clear B7
      intro B7
      replace B4 := B4.keep hgS2 (by intro h; injection h with h; first | exact x7_4 h.symm | exact x4_7 h | omega)
      have g := Xo g hgS2 (by intro k hk; injection hk with hk; omega)
      refine Zh (hK9 _ _ ?_)
      refine Zg fun K11 hK11 => ?_
      refine Zg fun K12 hK12 => ?_
      refine Zf [3, 0, 3, 3] ?_
      refine Zc rfl (fun _ => Zm Vz (Zb rfl)) ?_
      refine Ya rfl (Zt Yt (Zb rfl) (fun _ => B7.at_ rfl)) ?_
      refine Zc rfl (fun _ => Wz Yv (Zb rfl)) ?_
      refine Zc rfl (fun _ => Js (Zb rfl) Zl) ?_
      refine Zh (hK12 _ _ ?_)
      refine Zz (Zb rfl) (fun h4 => ?_) (fun h4 => ?_)
      · skip
        replace h4 : decide ((32 : Int) < (((s.drop p).take (runN isAlnum (s.drop p))).length : Nat)) = true := h4
        rw [hlen] at h4
        have hN : nextR s p = (⟨3, (s.drop p).take (runN isAlnum (s.drop p)), p⟩, 3) := by unfold nextR; rw [h1, wordK, h3, h4]; rfl
        refine Zg fun K13 hK13 => ?_
        refine Zf [0, 2, 3] ?_
        refine Ya rfl (Yb Wc (Zb rfl) rfl (fun _ => B7.row)) ?_
        refine Yu rfl Vg (Zb rfl) (Zb rfl) rfl rfl B4 rfl rfl ?_
        intro wS3 hgS3 hzS3
        clear B4
        intro B4
        replace B7 := B7.keep hgS3 (by intro h; injection h with h; first | exact x4_7 h.symm | exact x7_4 h | omega)
        have g := Xo g hgS3 (by intro k hk; injection hk with hk; omega)
        refine Zc rfl (fun _ => Ze Zl) ?_
        refine Zh (hK13 _ _ ?_)
        refine Yi [(0, _, _), (1, _, _), (4, _, _), (5, _, _), (6, _, _), (7, _, _), (35, _, _), (36, _, _), (37, _, _), (38, _, _), (39, _, _), (40, _, _), (41, _, _), (42, _, _), (43, _, _), (44, _, _), (45, _, _), (46, _, _), (47, _, _), (48, _, _), (49, _, _)] (Za rfl (Za rfl (Za rfl (Za rfl (Za rfl (Za rfl (Za rfl (Za rfl (Za rfl (Za rfl (Za rfl (Za rfl (Za rfl (Za rfl (Za rfl (Za rfl (Za rfl (Za rfl (Za rfl (Za rfl (Za rfl (Zd _)))))))))))))))))))))) ?_
        refine Yf (Uia (rs := [.cell 4 94, .tmp 5]) (vs := [_, _]) rfl rfl (Wma rfl Wc rfl (by first | exact B4.row | exact B7.row) (Xgb rfl (Qk))) rfl ?_)
        rw [hN]; exact ⟨rfl, g⟩
      skip
      replace h4 : decide ((32 : Int) < (((s.drop p).take (runN isAlnum (s.drop p))).length : Nat)) = false := h4
      rw [hlen] at h4
      have hN : nextR s p = (⟨3, (s.drop p).take (runN isAlnum (s.drop p)), p⟩, 0) := by unfold nextR; rw [h1, wordK, h3, h4]; rfl
      refine Yq (hK11 _ _ ?_)
      refine Zg fun K14 hK14 => ?_
      refine Zf [0, 2, 3] ?_
      refine Ya rfl (Yb Wc (Zb rfl) rfl (fun _ => B7.row)) ?_
      refine Yu rfl Vg (Zb rfl) (Zb rfl) rfl rfl B4 rfl rfl ?_
      intro wS4 hgS4 hzS4
      clear B4
      intro B4
      replace B7 := B7.keep hgS4 (by intro h; injection h with h; first | exact x4_7 h.symm | exact x7_4 h | omega)
      have g := Xo g hgS4 (by intro k hk; injection hk with hk; omega)
      refine Zc rfl (fun _ => Ze Zl) ?_
      refine Zh (hK14 _ _ ?_)
      refine Yi [(0, _, _), (1, _, _), (4, _, _), (5, _, _), (6, _, _), (7, _, _), (35, _, _), (36, _, _), (37, _, _), (38, _, _), (39, _, _), (40, _, _), (41, _, _), (42, _, _), (43, _, _), (44, _, _), (45, _, _), (46, _, _), (47, _, _), (48, _, _), (50, _, _)] (Za rfl (Za rfl (Za rfl (Za rfl (Za rfl (Za rfl (Za rfl (Za rfl (Za rfl (Za rfl (Za rfl (Za rfl (Za rfl (Za rfl (Za rfl (Za rfl (Za rfl (Za rfl (Za rfl (Za rfl (Za rfl (Zd _)))))))))))))))))))))) ?_
      refine Yf (Uia (rs := [.cell 4 94, .tmp 5]) (vs := [_, _]) rfl rfl (Wma rfl Wc rfl (by first | exact B4.row | exact B7.row) (Xgb rfl (Qk))) rfl ?_)
      rw [hN]; exact ⟨rfl, g⟩
    skip
    replace h3 : inB kws ((s.drop p).take (runN isAlnum (s.drop p))) = false := h3
    refine Yq (hK9 _ _ ?_)
    refine Zg fun K15 hK15 => ?_
    refine Zg fun K16 hK16 => ?_
    refine Zf [3, 0, 3, 3] ?_
    refine Zc rfl (fun _ => Zm Vz (Zb rfl)) ?_
    refine Ya rfl (Zt Yt (Zb rfl) (fun _ => B7.at_ rfl)) ?_
    refine Zc rfl (fun _ => Wz Yv (Zb rfl)) ?_
    refine Zc rfl (fun _ => Js (Zb rfl) Zl) ?_
    refine Zh (hK16 _ _ ?_)
    refine Zz (Zb rfl) (fun h5 => ?_) (fun h5 => ?_)
    · skip
      replace h5 : decide ((32 : Int) < (((s.drop p).take (runN isAlnum (s.drop p))).length : Nat)) = true := h5
      rw [hlen] at h5
      have hN : nextR s p = (⟨1, (s.drop p).take (runN isAlnum (s.drop p)), p⟩, 3) := by unfold nextR; rw [h1, wordK, h3, h5]; rfl
      refine Zg fun K17 hK17 => ?_
      refine Zf [0, 2, 3] ?_
      refine Ya rfl (Yb Wc (Zb rfl) rfl (fun _ => B7.row)) ?_
      refine Yu rfl Vg (Zb rfl) (Zb rfl) rfl rfl B4 rfl rfl ?_
      intro wS5 hgS5 hzS5
      clear B4
      intro B4
      replace B7 := B7.keep hgS5 (by intro h; injection h with h; first | exact x4_7 h.symm | exact x7_4 h | omega)
      have g := Xo g hgS5 (by intro k hk; injection hk with hk; omega)
      refine Zc rfl (fun _ => Ze Zl) ?_
      refine Zh (hK17 _ _ ?_)
      refine Yi [(0, _, _), (1, _, _), (4, _, _), (5, _, _), (6, _, _), (7, _, _), (35, _, _), (36, _, _), (37, _, _), (38, _, _), (39, _, _), (40, _, _), (41, _, _), (42, _, _), (43, _, _), (45, _, _), (46, _, _), (47, _, _), (48, _, _), (49, _, _)] (Za rfl (Za rfl (Za rfl (Za rfl (Za rfl (Za rfl (Za rfl (Za rfl (Za rfl (Za rfl (Za rfl (Za rfl (Za rfl (Za rfl (Za rfl (Za rfl (Za rfl (Za rfl (Za rfl (Za rfl (Zd _))))))))))))))))))))) ?_
      refine Yf (Uia (rs := [.cell 4 94, .tmp 5]) (vs := [_, _]) rfl rfl (Wma rfl Wc rfl (by first | exact B4.row | exact B7.row) (Xgb rfl (Qk))) rfl ?_)
      rw [hN]; exact ⟨rfl, g⟩
    skip
    replace h5 : decide ((32 : Int) < (((s.drop p).take (runN isAlnum (s.drop p))).length : Nat)) = false := h5
    rw [hlen] at h5
    have hN : nextR s p = (⟨1, (s.drop p).take (runN isAlnum (s.drop p)), p⟩, 0) := by unfold nextR; rw [h1, wordK, h3, h5]; rfl
    refine Yq (hK15 _ _ ?_)
    refine Zg fun K18 hK18 => ?_
    refine Zf [0, 2, 3] ?_
    refine Ya rfl (Yb Wc (Zb rfl) rfl (fun _ => B7.row)) ?_
    refine Yu rfl Vg (Zb rfl) (Zb rfl) rfl rfl B4 rfl rfl ?_
    intro wS6 hgS6 hzS6
    clear B4
    intro B4
    replace B7 := B7.keep hgS6 (by intro h; injection h with h; first | exact x4_7 h.symm | exact x7_4 h | omega)
    have g := Xo g hgS6 (by intro k hk; injection hk with hk; omega)
    refine Zc rfl (fun _ => Ze Zl) ?_
    refine Zh (hK18 _ _ ?_)
    refine Yi [(0, _, _), (1, _, _), (4, _, _), (5, _, _), (6, _, _), (7, _, _), (35, _, _), (36, _, _), (37, _, _), (38, _, _), (39, _, _), (40, _, _), (41, _, _), (42, _, _), (43, _, _), (45, _, _), (46, _, _), (47, _, _), (48, _, _), (50, _, _)] (Za rfl (Za rfl (Za rfl (Za rfl (Za rfl (Za rfl (Za rfl (Za rfl (Za rfl (Za rfl (Za rfl (Za rfl (Za rfl (Za rfl (Za rfl (Za rfl (Za rfl (Za rfl (Za rfl (Za rfl (Zd _))))))))))))))))))))) ?_
    refine Yf (Uia (rs := [.cell 4 94, .tmp 5]) (vs := [_, _]) rfl rfl (Wma rfl Wc rfl (by first | exact B4.row | exact B7.row) (Xgb rfl (Qk))) rfl ?_)
    rw [hN]; exact ⟨rfl, g⟩
  skip
  replace h1 : letterB (cAt s p) = false := h1
  refine Zg fun K19 hK19 => ?_
  refine Zf [3, 3, 3, 1, 3] ?_
  refine Zc rfl (fun _ => Zi (Zb rfl)) ?_
  refine Zc rfl (fun _ => Zi (Zb rfl)) ?_
  refine Zc rfl (fun _ => Uf Yv (Zb rfl) (Zb rfl) (fun _ => by omega)) ?_
  refine Xe rfl (Zu Zga Yl (Zk (Zb rfl) (Zn)) rfl) (Zmb _ _) (fun w55 g55 => ?_)
  have g := g.trans (g55)
  replace B4 := B4.grow (g55)
  refine Zc rfl (fun _ => Ze (Zb rfl)) ?_
  refine Zj [(0, _, _), (1, _, _), (4, _, _), (5, _, _), (6, _, _), (51, _, _)] (Za rfl (Za rfl (Za rfl (Za rfl (Za rfl (Za rfl (Zd _))))))) ?_
  refine Zh (hK19 _ _ ?_)
  refine Zz (Zb rfl) (fun h6 => ?_) (fun h6 => ?_)
  · skip
    replace h6 : digitB (cAt s p) = true := h6
    have hpos := Zka (q := digitB) hp h6
    refine Zg fun K20 hK20 => ?_
    refine Yp ?_
    refine Zba (fun (n : Nat) u => p + n ≤ s.length ∧ runN digitB (s.drop p) = n + runN digitB (s.drop (p + n)) ∧ G w u ∧ Blk u b4 Vf [.int .i64 0, .string ⟨#[]⟩, .int .i64 0]) (fun n => [(0, True, Str s), (1, True, .int .i64 p), (4, True, .pointer (some ⟨b4, 0, none⟩)), (6, True, .int .i64 (p + n : Nat))]) (fun n => s.length - n) 0 ⟨by omega, by simp, g, B4⟩ (Za rfl (Za rfl (Za rfl (Za rfl (Zd _))))) ?_
    rintro n u ⟨hn, he, g, B4⟩
    refine Zg fun K21 hK21 => ?_
    refine Zg fun K22 hK22 => ?_
    refine Zf [3, 3, 3, 3, 3, 3, 3, 3, 1, 3] ?_
    refine Zc rfl (fun _ => Zi (Zb rfl)) ?_
    refine Zc rfl (fun _ => Zi (Zb rfl)) ?_
    refine Zc rfl (fun _ => Wz Yv (Zb rfl)) ?_
    refine Zc rfl (fun _ => Vh (Zb rfl) (Zb rfl)) ?_
    refine Zc rfl (fun _ => Zi (Zb rfl)) ?_
    refine Zs rfl rfl rfl (fun _ => Zi (Zb rfl)) ?_
    refine Zs rfl rfl rfl (fun _ => Zi (Zb rfl)) ?_
    refine Zs rfl rfl rfl (fun _ => Uf Yv (Zy rfl id) (Zy rfl id) (fun hc => by have := of_decide_eq_true hc.2; omega)) ?_
    refine Xb rfl rfl rfl (fun _ => (Zu Zga Yl (Zk (Zy rfl id) (Zn)) rfl)) (fun hc => Zmb _ _) (fun w64 g64 => ?_)
    have g := g.trans (g64)
    replace B4 := B4.grow (g64)
    refine Zc rfl (fun _ => Ye (Zb rfl) (Zy rfl id)) ?_
    refine Zj [(0, _, _), (1, _, _), (4, _, _), (6, _, _), (65, _, _)] (Za rfl (Za rfl (Za rfl (Za rfl (Za rfl (Zd _)))))) ?_
    refine Zh (hK22 _ _ ?_)
    refine Zz (Zb rfl) (fun h7 => ?_) (fun h7 => ?_)
    · skip
      have hm := Xbc (q := digitB) h7 he
      refine Yq (hK21 _ _ ?_)
      refine Yi [(0, _, _), (1, _, _), (4, _, _), (6, _, _)] (Za rfl (Za rfl (Za rfl (Za rfl (Zd _))))) ?_
      refine Yp ?_
      refine Zf [3, 3, 3] ?_
      refine Zc rfl (fun _ => Zi (Zb rfl)) ?_
      refine Zc rfl (fun _ => Xq (Zb rfl) Zl (fun _ => by omega)) ?_
      refine Zc rfl (fun _ => Ze (Zb rfl)) ?_
      refine Zj [(0, _, _), (1, _, _), (4, _, _), (6, _, _)] (Za rfl (Za rfl (Za rfl (Za rfl (Zd _))))) ?_
      refine Zh (fun a ha => ?_)
      exact ⟨n + 1, ha, ⟨hm.1, hm.2, g, B4⟩, by omega⟩
    skip
    obtain rfl := Xcc (q := digitB) h7 he
    have e : (((p + runN digitB (s.drop p) : Nat) : Int)).toNat - (p : Int).toNat = runN digitB (s.drop p) := by omega
    have hlen : ((s.drop p).take (runN digitB (s.drop p))).length = runN digitB (s.drop p) := by rw [List.length_take, List.length_drop]; omega
    refine Wa rfl (hK20 _ _ ?_)
    refine Yi [(0, _, _), (1, _, _), (4, _, _), (6, _, _)] (Za rfl (Za rfl (Za rfl (Za rfl (Zd _))))) ?_
    refine Zg fun K23 hK23 => ?_
    refine Zf [3, 3, 3, 3, 1, 3, 3, 3, 3, 3] ?_
    refine Zc rfl (fun _ => Zi (Zb rfl)) ?_
    refine Zc rfl (fun _ => Zi (Zb rfl)) ?_
    refine Zc rfl (fun _ => Zi (Zb rfl)) ?_
    refine Zc rfl (fun _ => Qoa Yv (Zb rfl) (Zb rfl) (Zb rfl) (fun _ => by omega)) ?_
    rw [e]
    refine Yd rfl (Zu Zlc Yl (Zk (Zb rfl) (Zn)) rfl) (integer_ok _ (Jka s p) (by intro h0; have h0 := congrArg List.length h0; replace h0 : ((s.drop p).take (runN digitB (s.drop p))).length = 0 := h0; rw [hlen] at h0; omega) (by show ((s.drop p).take (runN digitB (s.drop p))).length ≤ 20000; rw [hlen]; omega) _) ?_
    rintro v73 w73 ⟨⟨x, rfl⟩, g73⟩
    refine ⟨fun _ => g73, ?_⟩
    have g := g.trans g73
    replace B4 := B4.grow (g73)
    refine Zc rfl (fun _ => Zi (Zb rfl)) ?_
    refine Zc rfl (fun _ => Wu (Zb rfl) rfl) ?_
    refine Zc rfl (fun _ => Wu (Zb rfl) rfl) ?_
    refine Zc rfl (fun _ => Ze (Zb rfl)) ?_
    refine Zc rfl (fun _ => Ze (Zb rfl)) ?_
    refine Zj [(0, _, _), (1, _, _), (4, _, _), (6, _, _), (9, _, _), (68, _, _), (69, _, _), (70, _, _), (71, _, _), (72, _, _), (73, _, _), (74, _, _), (75, _, _)] (Za rfl (Za rfl (Za rfl (Za rfl (Za rfl (Za rfl (Za rfl (Za rfl (Za rfl (Za rfl (Za rfl (Za rfl (Za rfl (Zd _)))))))))))))) ?_
    refine Zh (hK23 _ _ ?_)
    refine Zg fun K24 hK24 => ?_
    refine Zg fun K25 hK25 => ?_
    refine Zf [3, 3, 3, 3, 3, 3, 3, 3, 3, 3, 3, 1, 3, 3] ?_
    refine Zc rfl (fun _ => Zi (Zb rfl)) ?_
    refine Zc rfl (fun _ => Ub (Zb rfl)) ?_
    refine Zc rfl (fun _ => Zi (Zb rfl)) ?_
    refine Zs rfl rfl rfl (fun _ => Zi (Zb rfl)) ?_
    refine Zs rfl rfl rfl (fun _ => Zi (Zb rfl)) ?_
    refine Zs rfl rfl rfl (fun _ => Wz Yv (Zy rfl id)) ?_
    refine Zs rfl rfl rfl (fun _ => Vh (Zy rfl id) (Zy rfl id)) ?_
    refine Zs rfl rfl rfl (fun _ => Zi (Zy rfl id)) ?_
    refine Zs rfl rfl rfl (fun _ => Zi (Zb rfl)) ?_
    refine Zs rfl rfl rfl (fun _ => Zi (Zb rfl)) ?_
    refine Zs rfl rfl rfl (fun _ => Uf Yv (Zy rfl id) (Zy rfl id) (fun hc => by have := of_decide_eq_true hc.2; omega)) ?_
    refine Xb rfl rfl rfl (fun _ => (Zu Jj Yl (Zk (Zy rfl id) (Zn)) rfl)) (fun hc => Xab _ _) (fun w87 g87 => ?_)
    have g := g.trans (g87)
    replace B4 := B4.grow (g87)
    refine Zs rfl rfl rfl (fun _ => Ye (Zy rfl id) (Zy rfl id)) ?_
    refine Zc rfl (fun _ => Yz (Zb rfl) (Zy rfl id)) ?_
    refine Zh (hK25 _ _ ?_)
    refine Zz (Zb rfl) (fun h8 => ?_) (fun h8 => ?_)
    · skip
      replace h8 : ((!intOk ((s.drop p).take (runN digitB (s.drop p)))) || (decide ((p : Int) + runN digitB (s.drop p) < s.length) && letterB (cAt s (p + runN digitB (s.drop p))))) = true := h8
      have hN : nextR s p = (⟨0, [], 0⟩, 4) := by unfold nextR; rw [h1, h6, h8]; rfl
      refine Zg fun K26 hK26 => ?_
      refine Zf [3, 2, 3] ?_
      refine Zc rfl (fun _ => We [_, _, _] Xn rfl Vw (Yc) rfl) ?_
      refine Yu rfl Vg (Zb rfl) (Zb rfl) rfl rfl B4 rfl rfl ?_
      intro wS7 hgS7 hzS7
      clear B4
      intro B4
      have g := Xo g hgS7 (by intro k hk; injection hk with hk; omega)
      refine Zc rfl (fun _ => Ze Zl) ?_
      refine Zh (hK26 _ _ ?_)
      refine Yi [(0, _, _), (1, _, _), (4, _, _), (5, _, _), (6, _, _), (9, _, _), (68, _, _), (69, _, _), (70, _, _), (71, _, _), (72, _, _), (73, _, _), (74, _, _), (75, _, _), (76, _, _), (77, _, _), (78, _, _), (79, _, _), (80, _, _), (81, _, _), (82, _, _), (83, _, _), (84, _, _), (85, _, _), (86, _, _), (87, _, _), (88, _, _), (89, _, _), (90, _, _)] (Za rfl (Za rfl (Za rfl (Za rfl (Za rfl (Za rfl (Za rfl (Za rfl (Za rfl (Za rfl (Za rfl (Za rfl (Za rfl (Za rfl (Za rfl (Za rfl (Za rfl (Za rfl (Za rfl (Za rfl (Za rfl (Za rfl (Za rfl (Za rfl (Za rfl (Za rfl (Za rfl (Za rfl (Za rfl (Zd _)))))))))))))))))))))))))))))) ?_
      refine Yf (Uia (rs := [.cell 4 94, .tmp 5]) (vs := [_, _]) rfl rfl (Wma rfl Wc rfl (by first | exact B4.row) (Xgb rfl (Qk))) rfl ?_)
      rw [hN]; exact ⟨rfl, g⟩
    skip
    replace h8 : ((!intOk ((s.drop p).take (runN digitB (s.drop p)))) || (decide ((p : Int) + runN digitB (s.drop p) < s.length) && letterB (cAt s (p + runN digitB (s.drop p))))) = false := h8
    have hN : nextR s p = (⟨2, (s.drop p).take (runN digitB (s.drop p)), p⟩, 0) := by unfold nextR; rw [h1, h6, h8]; rfl
    refine Yq (hK24 _ _ ?_)
    refine Zg fun K27 hK27 => ?_
    refine Zf [3, 3, 3, 3, 3, 3, 2, 3] ?_
    refine Zc rfl (fun _ => Zi (Zb rfl)) ?_
    refine Zc rfl (fun _ => Zi (Zb rfl)) ?_
    refine Zc rfl (fun _ => Zi (Zb rfl)) ?_
    refine Zc rfl (fun _ => Qoa Yv (Zb rfl) (Zb rfl) (Zb rfl) (fun _ => by omega)) ?_
    rw [e]
    refine Zc rfl (fun _ => Zi (Zb rfl)) ?_
    refine Zc rfl (fun _ => We [_, _, _] Xn rfl Vw (Zp Zl (Zp (Zb rfl) (Zp (Zb rfl) (Yc)))) rfl) ?_
    refine Yu rfl Vg (Zb rfl) (Zb rfl) rfl rfl B4 rfl rfl ?_
    intro wS8 hgS8 hzS8
    clear B4
    intro B4
    have g := Xo g hgS8 (by intro k hk; injection hk with hk; omega)
    refine Zc rfl (fun _ => Ze Zl) ?_
    refine Zh (hK27 _ _ ?_)
    refine Yi [(0, _, _), (1, _, _), (4, _, _), (5, _, _), (6, _, _), (9, _, _), (68, _, _), (69, _, _), (70, _, _), (71, _, _), (72, _, _), (73, _, _), (74, _, _), (75, _, _), (76, _, _), (77, _, _), (78, _, _), (79, _, _), (80, _, _), (81, _, _), (82, _, _), (83, _, _), (84, _, _), (85, _, _), (86, _, _), (87, _, _), (88, _, _), (89, _, _), (91, _, _), (92, _, _), (93, _, _), (94, _, _), (95, _, _), (96, _, _)] (Za rfl (Za rfl (Za rfl (Za rfl (Za rfl (Za rfl (Za rfl (Za rfl (Za rfl (Za rfl (Za rfl (Za rfl (Za rfl (Za rfl (Za rfl (Za rfl (Za rfl (Za rfl (Za rfl (Za rfl (Za rfl (Za rfl (Za rfl (Za rfl (Za rfl (Za rfl (Za rfl (Za rfl (Za rfl (Za rfl (Za rfl (Za rfl (Za rfl (Za rfl (Zd _))))))))))))))))))))))))))))))))))) ?_
    refine Yf (Uia (rs := [.cell 4 94, .tmp 5]) (vs := [_, _]) rfl rfl (Wma rfl Wc rfl (by first | exact B4.row) (Xgb rfl (Qk))) rfl ?_)
    rw [hN]; exact ⟨rfl, g⟩
  skip
  replace h6 : digitB (cAt s p) = false := h6
  refine Zg fun K28 hK28 => ?_
  refine Zf [3, 3, 3, 3, 3, 3, 3, 3, 3, 3, 3, 3, 3, 3, 3, 3, 3, 3, 3] ?_
  refine Zc rfl (fun _ => Zi (Zb rfl)) ?_
  refine Zc rfl (fun _ => Zi (Zb rfl)) ?_
  refine Zc rfl (fun _ => Uf Yv (Zb rfl) (Zb rfl) (fun _ => by omega)) ?_
  refine Zc rfl (fun _ => Yg (Zb rfl) Zl) ?_
  refine Zc rfl (fun _ => Zi (Zb rfl)) ?_
  refine Zs rfl rfl rfl (fun _ => Zi (Zb rfl)) ?_
  refine Zs rfl rfl rfl (fun _ => Xq (Zy rfl id) Zl (fun _ => by omega)) ?_
  refine Zs rfl rfl rfl (fun _ => Zi (Zb rfl)) ?_
  refine Zs rfl rfl rfl (fun _ => Wz Yv (Zy rfl id)) ?_
  refine Zs rfl rfl rfl (fun _ => Vh (Zy rfl id) (Zy rfl id)) ?_
  refine Zc rfl (fun _ => Ye (Zb rfl) (Zy rfl id)) ?_
  refine Zc rfl (fun _ => Zi (Zb rfl)) ?_
  refine Zs rfl rfl rfl (fun _ => Zi (Zb rfl)) ?_
  refine Zs rfl rfl rfl (fun _ => Zi (Zb rfl)) ?_
  refine Zs rfl rfl rfl (fun _ => Xq (Zy rfl id) Zl (fun _ => by omega)) ?_
  refine Zs rfl rfl rfl (fun _ => Uf Yv (Zy rfl id) (Zy rfl id) (fun hc => by have := hc.2; simp only [Bool.and_eq_true, decide_eq_true_eq] at this; omega)) ?_
  refine Zs rfl rfl rfl (fun _ => Yg (Zy rfl id) Zl) ?_
  refine Zc rfl (fun _ => Ye (Zb rfl) (Zy rfl id)) ?_
  refine Zc rfl (fun _ => Ze (Zb rfl)) ?_
  refine Zj [(0, _, _), (1, _, _), (4, _, _), (5, _, _), (6, _, _), (97, _, _)] (Za rfl (Za rfl (Za rfl (Za rfl (Za rfl (Za rfl (Zd _))))))) ?_
  refine Zh (hK28 _ _ ?_)
  refine Zz (Zb rfl) (fun h9 => ?_) (fun h9 => ?_)
  · skip
    replace h9 : ((decide (cAt s p = 47) && decide ((p : Int) + 1 < s.length)) && decide (cAt s (p + 1) = 47)) = true := h9
    refine Zg fun K29 hK29 => ?_
    refine Yp ?_
    refine Zba (fun (n : Nat) u => p + n ≤ s.length ∧ runN isNotLf (s.drop p) = n + runN isNotLf (s.drop (p + n)) ∧ G w u ∧ Blk u b4 Vf [.int .i64 0, .string ⟨#[]⟩, .int .i64 0]) (fun n => [(0, True, Str s), (1, True, .int .i64 p), (4, True, .pointer (some ⟨b4, 0, none⟩)), (6, True, .int .i64 (p + n : Nat))]) (fun n => s.length - n) 0 ⟨by omega, by simp, g, B4⟩ (Za rfl (Za rfl (Za rfl (Za rfl (Zd _))))) ?_
    rintro n u ⟨hn, he, g, B4⟩
    refine Zg fun K30 hK30 => ?_
    refine Zg fun K31 hK31 => ?_
    refine Zf [3, 3, 3, 3, 3, 3, 3, 3, 3, 3] ?_
    refine Zc rfl (fun _ => Zi (Zb rfl)) ?_
    refine Zc rfl (fun _ => Zi (Zb rfl)) ?_
    refine Zc rfl (fun _ => Wz Yv (Zb rfl)) ?_
    refine Zc rfl (fun _ => Vh (Zb rfl) (Zb rfl)) ?_
    refine Zc rfl (fun _ => Zi (Zb rfl)) ?_
    refine Zs rfl rfl rfl (fun _ => Zi (Zb rfl)) ?_
    refine Zs rfl rfl rfl (fun _ => Zi (Zb rfl)) ?_
    refine Zs rfl rfl rfl (fun _ => Uf Yv (Zy rfl id) (Zy rfl id) (fun hc => by have := of_decide_eq_true hc.2; omega)) ?_
    refine Zs rfl rfl rfl (fun _ => Qi (Zy rfl id) Zl) ?_
    refine Zc rfl (fun _ => Ye (Zb rfl) (Zy rfl id)) ?_
    refine Zj [(0, _, _), (1, _, _), (4, _, _), (6, _, _), (125, _, _)] (Za rfl (Za rfl (Za rfl (Za rfl (Za rfl (Zd _)))))) ?_
    refine Zh (hK31 _ _ ?_)
    refine Zz (Zb rfl) (fun h10 => ?_) (fun h10 => ?_)
    · skip
      have hm := Xbc (q := isNotLf) h10 he
      refine Yq (hK30 _ _ ?_)
      refine Yi [(0, _, _), (1, _, _), (4, _, _), (6, _, _)] (Za rfl (Za rfl (Za rfl (Za rfl (Zd _))))) ?_
      refine Yp ?_
      refine Zf [3, 3, 3] ?_
      refine Zc rfl (fun _ => Zi (Zb rfl)) ?_
      refine Zc rfl (fun _ => Xq (Zb rfl) Zl (fun _ => by omega)) ?_
      refine Zc rfl (fun _ => Ze (Zb rfl)) ?_
      refine Zj [(0, _, _), (1, _, _), (4, _, _), (6, _, _)] (Za rfl (Za rfl (Za rfl (Za rfl (Zd _))))) ?_
      refine Zh (fun a ha => ?_)
      exact ⟨n + 1, ha, ⟨hm.1, hm.2, g, B4⟩, by omega⟩
    skip
    obtain rfl := Xcc (q := isNotLf) h10 he
    have e : (((p + runN isNotLf (s.drop p) : Nat) : Int)).toNat - (p : Int).toNat = runN isNotLf (s.drop p) := by omega
    have hN : nextR s p = (⟨5, (s.drop p).take (runN isNotLf (s.drop p)), p⟩, 0) := by unfold nextR; rw [h1, h6, h9]; rfl
    refine Wa rfl (hK29 _ _ ?_)
    refine Yi [(0, _, _), (1, _, _), (4, _, _), (6, _, _)] (Za rfl (Za rfl (Za rfl (Za rfl (Zd _))))) ?_
    refine Zg fun K32 hK32 => ?_
    refine Zf [3, 3, 3, 3, 3, 3, 2, 3] ?_
    refine Zc rfl (fun _ => Zi (Zb rfl)) ?_
    refine Zc rfl (fun _ => Zi (Zb rfl)) ?_
    refine Zc rfl (fun _ => Zi (Zb rfl)) ?_
    refine Zc rfl (fun _ => Qoa Yv (Zb rfl) (Zb rfl) (Zb rfl) (fun _ => by omega)) ?_
    rw [e]
    refine Zc rfl (fun _ => Zi (Zb rfl)) ?_
    refine Zc rfl (fun _ => We [_, _, _] Xn rfl Vw (Zp Zl (Zp (Zb rfl) (Zp (Zb rfl) (Yc)))) rfl) ?_
    refine Yu rfl Vg (Zb rfl) (Zb rfl) rfl rfl B4 rfl rfl ?_
    intro wS9 hgS9 hzS9
    clear B4
    intro B4
    have g := Xo g hgS9 (by intro k hk; injection hk with hk; omega)
    refine Zc rfl (fun _ => Ze Zl) ?_
    refine Zh (hK32 _ _ ?_)
    refine Yi [(0, _, _), (1, _, _), (4, _, _), (5, _, _), (6, _, _), (128, _, _), (129, _, _), (130, _, _), (131, _, _), (132, _, _), (133, _, _)] (Za rfl (Za rfl (Za rfl (Za rfl (Za rfl (Za rfl (Za rfl (Za rfl (Za rfl (Za rfl (Za rfl (Zd _)))))))))))) ?_
    refine Yf (Uia (rs := [.cell 4 94, .tmp 5]) (vs := [_, _]) rfl rfl (Wma rfl Wc rfl (by first | exact B4.row) (Xgb rfl (Qk))) rfl ?_)
    rw [hN]; exact ⟨rfl, g⟩
  skip
  replace h9 : ((decide (cAt s p = 47) && decide ((p : Int) + 1 < s.length)) && decide (cAt s (p + 1) = 47)) = false := h9
  refine Yq (hK3 _ _ ?_)
  refine Yi [(0, _, _), (1, _, _), (4, _, _), (5, _, _)] (Za rfl (Za rfl (Za rfl (Za rfl (Zd _))))) ?_
  refine Zg fun K33 hK33 => ?_
  refine Zf [3, 3, 3, 1, 3] ?_
  refine Zc rfl (fun _ => Zi (Zb rfl)) ?_
  refine Zc rfl (fun _ => Zi (Zb rfl)) ?_
  refine Zc rfl (fun _ => Qpa Yv (Zb rfl) (Zb rfl) (fun _ => by omega)) ?_
  refine Xe rfl (Zu Qib Yl (Zk (Zb rfl) (Zn)) rfl) (operator_ok _ (by show (s.drop p).length ≤ 20000; rw [List.length_drop]; omega) _) (fun w137 g137 => ?_)
  have g := g.trans (g137)
  replace B4 := B4.grow (g137)
  refine Zc rfl (fun _ => Ze (Zb rfl)) ?_
  refine Zh (hK33 _ _ ?_)
  refine Yi [(0, _, _), (1, _, _), (4, _, _), (5, _, _), (10, _, _), (134, _, _), (135, _, _), (136, _, _), (137, _, _)] (Za rfl (Za rfl (Za rfl (Za rfl (Za rfl (Za rfl (Za rfl (Za rfl (Za rfl (Zd _)))))))))) ?_
  refine Zg fun K34 hK34 => ?_
  refine Zg fun K35 hK35 => ?_
  refine Zf [3, 3] ?_
  refine Zc rfl (fun _ => Zi (Zb rfl)) ?_
  refine Zc rfl (fun _ => Yh (Zb rfl) Zl) ?_
  refine Zh (hK35 _ _ ?_)
  refine Zz (Zb rfl) (fun h11 => ?_) (fun h11 => ?_)
  · skip
    replace h11 : decide ((s.drop p).take (opLenR (s.drop p)) = []) = true := h11
    have hN : nextR s p = (⟨0, [], 0⟩, 4) := by unfold nextR; rw [h1, h6, h9, h11]; rfl
    refine Zg fun K36 hK36 => ?_
    refine Zf [3, 2, 3] ?_
    refine Zc rfl (fun _ => We [_, _, _] Xn rfl Vw (Yc) rfl) ?_
    refine Yu rfl Vg (Zb rfl) (Zb rfl) rfl rfl B4 rfl rfl ?_
    intro wS10 hgS10 hzS10
    clear B4
    intro B4
    have g := Xo g hgS10 (by intro k hk; injection hk with hk; omega)
    refine Zc rfl (fun _ => Ze Zl) ?_
    refine Zh (hK36 _ _ ?_)
    refine Yf (Uia (rs := [.cell 4 94, .tmp 5]) (vs := [_, _]) rfl rfl (Wma rfl Wc rfl (by first | exact B4.row) (Xgb rfl (Qk))) rfl ?_)
    rw [hN]; exact ⟨rfl, g⟩
  skip
  replace h11 : decide ((s.drop p).take (opLenR (s.drop p)) = []) = false := h11
  have hN : nextR s p = (⟨4, (s.drop p).take (opLenR (s.drop p)), p⟩, 0) := by unfold nextR; rw [h1, h6, h9, h11]; rfl
  refine Yq (hK34 _ _ ?_)
  refine Zg fun K37 hK37 => ?_
  refine Zf [3, 3, 3, 2, 3] ?_
  refine Zc rfl (fun _ => Zi (Zb rfl)) ?_
  refine Zc rfl (fun _ => Zi (Zb rfl)) ?_
  refine Zc rfl (fun _ => We [_, _, _] Xn rfl Vw (Zp Zl (Zp (Zb rfl) (Zp (Zb rfl) (Yc)))) rfl) ?_
  refine Yu rfl Vg (Zb rfl) (Zb rfl) rfl rfl B4 rfl rfl ?_
  intro wS11 hgS11 hzS11
  clear B4
  intro B4
  have g := Xo g hgS11 (by intro k hk; injection hk with hk; omega)
  refine Zc rfl (fun _ => Ze Zl) ?_
  refine Zh (hK37 _ _ ?_)
  refine Yf (Uia (rs := [.cell 4 94, .tmp 5]) (vs := [_, _]) rfl rfl (Wma rfl Wc rfl (by first | exact B4.row) (Xgb rfl (Qk))) rfl ?_)
  rw [hN]; exact ⟨rfl, g⟩
end Go.Rk
namespace Go.Rk
open Go
theorem cAt_eq {s : List UInt8} {p : Nat} (h : p < s.length) : cAt s p = (s[p].toNat : Int) := by
 simp [cAt, List.getD_eq_getElem?_getD, List.getElem?_eq_getElem h]
theorem cAt_is {s : List UInt8} {p : Nat} (h : p < s.length) (u : UInt8) : decide (cAt s p = (u.toNat : Int)) = decide (s[p] = u) := by
 rw [cAt_eq h, Bool.eq_iff_iff]
 simp only [decide_eq_true_eq]
 constructor
 ·intro e; exact UInt8.toNat_inj.mp (by omega)
 ·rintro e; rw [e]
theorem pre_slashes {s : List UInt8} {p : Nat} (h : p < s.length) : preB [47, 47] (s.drop p) = ((decide (cAt s p = 47) && decide ((p : Int) + 1 < s.length)) && decide (cAt s (p + 1) = 47)) := by
 have e1 := cAt_is h 47
 rw [show ((47 : UInt8).toNat : Int) = 47 from rfl] at e1
 rw [preB, List.length_drop]
 by_cases h1 : p + 1 < s.length
 ·have e2 := cAt_is h1 47
  rw [show ((47 : UInt8).toNat : Int) = 47 from rfl] at e2
  rw [e1, e2, decide_eq_true (by omega : (p : Int) + 1 < s.length), decide_eq_true (show [(47 : UInt8), 47].length ≤ s.length - p by simp; omega)]
  rw [List.drop_eq_getElem_cons h, List.drop_eq_getElem_cons h1]
  rw [show [(47 : UInt8), 47].length = 2 from rfl, Bool.eq_iff_iff]
  simp only [List.take_succ_cons, List.take_zero, decide_eq_true_eq, Bool.and_eq_true, Bool.true_and, Bool.and_true, List.cons.injEq, and_true]
 ·rw [decide_eq_false (by omega : ¬ (p : Int) + 1 < s.length), decide_eq_false (show ¬ [(47 : UInt8), 47].length ≤ s.length - p by simp; omega)]
  simp
/-! operators -/
def ops2 : List (List UInt8) := opsL.take 8
def ops1 : List (List UInt8) := opsL.drop 8
theorem Wqb : ∀ o ∈ ops2, o.length = 2 := by decide
theorem Xdc : ∀ o ∈ ops1, o.length = 1 := by decide
theorem ops_split : opsL = ops2 ++ ops1 := (List.take_append_drop 8 opsL).symm
theorem any_pre {os : List (List UInt8)} {n : Nat} (h : ∀ o ∈ os, o.length = n) (l : List UInt8) : os.any (fun o => preB o l) = (decide (n ≤ l.length) && inB os (l.take n)) := by
 induction os with
 | nil => simp [inB]
 | cons o os ih =>
  have ho := h o (List.mem_cons_self ..)
  rw [List.any_cons, ih (fun x hx => h x (List.mem_cons_of_mem _ hx))]
  simp only [inB, List.any_cons, preB, ho]
  cases decide (n ≤ l.length) <;> simp
theorem inB_len {os : List (List UInt8)} {n : Nat} (h : ∀ o ∈ os, o.length = n) {l : List UInt8} (hl : l.length ≠ n) : inB os l = false := by
 rw [inB, List.any_eq_false]
 intro o ho
 have := h o ho
 simp only [decide_eq_true_eq]
 intro e; exact hl (e ▸ this)
theorem inB_app (a b : List (List UInt8)) (l : List UInt8) : inB (a ++ b) l = (inB a l || inB b l) := by simp [inB]
theorem find_len {os : List (List UInt8)} {n : Nat} (h : ∀ o ∈ os, o.length = n) (l : List UInt8) : (os.find? (fun o => preB o l)).map List.length = bif os.any (fun o => preB o l) then some n else none := by
 induction os with
 | nil => rfl
 | cons o os ih =>
  rw [List.find?_cons, List.any_cons]
  cases hp : preB o l
  ·simpa using ih (fun x hx => h x (List.mem_cons_of_mem _ hx))
  ·simp [h o (List.mem_cons_self ..)]
theorem opLen_map (l : List UInt8) : Zja l = ((opsL.find? (fun o => preB o l)).map List.length).getD 0 := by
 rw [Zja]; cases opsL.find? (fun o => preB o l) <;> rfl
theorem opLen_R (l : List UInt8) : Zja l = opLenR l := by
 have h2 := find_len Wqb l
 have h1 := find_len Xdc l
 have a2 := any_pre Wqb l
 have a1 := any_pre Xdc l
 rw [opLen_map, ops_split, List.find?_append]
 unfold opLenR
 rw [ops_split, inB_app, inB_app]
 by_cases hl2 : 2 ≤ l.length
 ·rw [inB_len Xdc (l := l.take 2) (by rw [List.length_take]; omega), inB_len Wqb (l := l.take 1) (by rw [List.length_take]; omega), Bool.or_false, Bool.false_or, ← a2, ← a1]
  cases hx : ops2.find? (fun o => preB o l) with
  | some o => rw [hx] at h2; cases hy : ops2.any (fun o => preB o l) <;> rw [hy] at h2 <;> simp at h2 ⊢; exact h2
  | none =>
   rw [hx] at h2
   cases hy : ops2.any (fun o => preB o l)
   ·cases hz : ops1.find? (fun o => preB o l) with
    | some o => rw [hz] at h1; cases hw : ops1.any (fun o => preB o l) <;> rw [hw] at h1 <;> simp at h1 ⊢; exact h1
    | none => rw [hz] at h1; cases hw : ops1.any (fun o => preB o l) <;> rw [hw] at h1 <;> simp at h1 ⊢
   ·rw [hy] at h2; simp at h2
 ·have e2 : ops2.any (fun o => preB o l) = false := by rw [a2, decide_eq_false hl2]; rfl
  rw [decide_eq_false hl2, Bool.false_and, cond_false]
  cases hx : ops2.find? (fun o => preB o l) with
  | some o => rw [hx, e2] at h2; simp at h2
  | none =>
   by_cases hl1 : 1 ≤ l.length
   ·rw [inB_len Wqb (l := l.take 1) (by rw [List.length_take]; omega), Bool.false_or, ← a1]
    cases hz : ops1.find? (fun o => preB o l) with
    | some o => rw [hz] at h1; cases hw : ops1.any (fun o => preB o l) <;> rw [hw] at h1 <;> simp at h1 ⊢; exact h1
    | none => rw [hz] at h1; cases hw : ops1.any (fun o => preB o l) <;> rw [hw] at h1 <;> simp at h1 ⊢
   ·rw [decide_eq_false hl1, Bool.false_and] at a1 ⊢
    rw [a1] at h1
    cases hz : ops1.find? (fun o => preB o l) with
    | some o => rw [hz] at h1; simp at h1
    | none => rfl
theorem opLenR_le (l : List UInt8) : opLenR l ≤ l.length := by
 unfold opLenR
 cases h2 : decide (2 ≤ l.length) && inB opsL (l.take 2)
 ·cases h1 : decide (1 ≤ l.length) && inB opsL (l.take 1)
  ·exact Nat.zero_le _
  ·simp only [Bool.and_eq_true, decide_eq_true_eq] at h1; exact h1.1
 ·simp only [Bool.and_eq_true, decide_eq_true_eq] at h2; exact h2.1
/-! integers -/
theorem valN_low (l : List UInt8) (h : allD l) : ∀ a, a * 10 ^ l.length ≤ valN a l := by
 induction l with
 | nil => intro a; show a * 1 ≤ a; omega
 | cons c l ih =>
  intro a
  have := ih (fun x hx => h x (List.mem_cons_of_mem _ hx)) (a * 10 + (c.toNat - 48))
  rw [Vza, List.length_cons, Nat.pow_succ]
  refine Nat.le_trans ?_ this
  rw [show a * (10 ^ l.length * 10) = (a * 10) * 10 ^ l.length by rw [Nat.mul_assoc, Nat.mul_comm 10]]
  exact Nat.mul_le_mul_right _ (by omega)
theorem int_len {l : List UInt8} (h : allD l) (h0 : cAt l 0 ≠ 48) (hv : valN 0 l < 9223372036854775808) : l.length ≤ 19 := by
 cases l with
 | nil => simp
 | cons c l =>
  have hc := h c (List.mem_cons_self ..)
  have hne : c.toNat ≠ 48 := by intro e; exact h0 (by simp [cAt, e])
  have h1 := valN_low l (fun x hx => h x (List.mem_cons_of_mem _ hx)) (0 * 10 + (c.toNat - 48))
  rw [Vza] at hv
  have h2 : 10 ^ l.length ≤ (0 * 10 + (c.toNat - 48)) * 10 ^ l.length := Nat.le_mul_of_pos_left _ (by omega)
  by_cases hl : l.length ≤ 18
  ·simp; omega
  ·exfalso
   have h3 : (10 : Nat) ^ 19 ≤ 10 ^ l.length := Nat.pow_le_pow_right (by decide) (by omega)
   have h4 : (10 : Nat) ^ 19 = 10000000000000000000 := by decide
   omega
theorem nextF_tok {s : List UInt8} {p : Nat} (ts cs : List Tok) (h : p < s.length) (hb : (decide (cAt s p = 10) || ((decide (cAt s p = 32) || decide (cAt s p = 9)) || decide (cAt s p = 13))) = false) :
  nextF s p ts cs = bif !decide ((nextR s p).2 = 0) then (p, ts, cs, (nextR s p).2) else bif decide ((nextR s p).1.kind = 5) then (p + (nextR s p).1.text.length, ts, cs ++ [(nextR s p).1], 0) else (p + (nextR s p).1.text.length, ts ++ [(nextR s p).1], cs, 0) := by
 rw [Bool.or_eq_false_iff] at hb
 have hlen : ∀ n, p + n ≤ s.length → ((s.drop p).take n).length = n := fun n hn => by rw [List.length_take, List.length_drop]; omega
 unfold nextF nextR
 rw [hb.1, hb.2, pre_slashes h]
 cases h3 : (decide (cAt s p = 47) && decide ((p : Int) + 1 < s.length)) && decide (cAt s (p + 1) = 47)
 ·cases h4 : letterB (cAt s p)
  ·cases h6 : digitB (cAt s p)
   ·simp only [cond_false]
    have hle := opLenR_le (s.drop p)
    rw [List.length_drop] at hle
    rw [opLen_R]
    cases h0 : Nat.beq (opLenR (s.drop p)) 0
    ·have hne : opLenR (s.drop p) ≠ 0 := by intro e; rw [e] at h0; cases h0
     rw [decide_eq_false (show ¬ (s.drop p).take (opLenR (s.drop p)) = [] by intro e; have := congrArg List.length e; rw [hlen _ (by omega)] at this; exact hne this)]
     simp [hlen _ (show p + opLenR (s.drop p) ≤ s.length by omega)]
    ·have e0 := Nat.eq_of_beq_eq_true h0
     rw [e0]; simp
   ·simp only [cond_true, cond_false]
    have hf := Jm digitB h
    have hpos := Zka (q := digitB) h h6
    have hd := Jka s p
    have hl := hlen _ hf
    have hc0 : cAt ((s.drop p).take (runN digitB (s.drop p))) 0 = cAt s p := by
     rw [cAt_eq (by omega), cAt_eq h]; simp
    rw [badD]
    cases hlt : decide ((p : Int) + runN digitB (s.drop p) < s.length) && letterB (cAt s (p + runN digitB (s.drop p)))
    ·simp only [Bool.or_false]
     rw [intOk, hl, hc0]
     by_cases hv : valN 0 ((s.drop p).take (runN digitB (s.drop p))) < 9223372036854775808
     ·rw [decide_eq_true hv, decide_eq_true (show ((valN 0 ((s.drop p).take (runN digitB (s.drop p))) : Nat) : Int) < 9223372036854775808 by omega)]
      by_cases h48 : cAt s p = 48
      ·rw [decide_eq_true h48]
       by_cases h1 : (1 : Int) < runN digitB (s.drop p)
       ·rw [decide_eq_true h1]; simp
       ·rw [decide_eq_false h1, decide_eq_true (show runN digitB (s.drop p) ≤ 19 by omega)]; simp [hl]
      ·rw [decide_eq_false h48, decide_eq_true (show runN digitB (s.drop p) ≤ 19 by rw [← hl]; exact int_len hd (by rw [hc0]; exact h48) hv)]; simp [hl]
     ·rw [decide_eq_false hv, decide_eq_false (show ¬ ((valN 0 ((s.drop p).take (runN digitB (s.drop p))) : Nat) : Int) < 9223372036854775808 by omega)]
      cases (decide (cAt s p = 48) && decide ((1 : Int) < runN digitB (s.drop p))) <;> simp
    ·simp
  ·simp only [cond_true, cond_false]
   have hf := Jm isAlnum h
   cases h5 : decide ((32 : Int) < runN isAlnum (s.drop p))
   ·rw [wordK]
    cases inB kws ((s.drop p).take (runN isAlnum (s.drop p))) <;> simp [hlen _ hf]
   ·simp
 ·have hc : cAt s p = 47 := by simp only [Bool.and_eq_true, decide_eq_true_eq] at h3; exact h3.1.1
  have h4 : letterB (cAt s p) = false := by rw [hc]; rfl
  have h6 : digitB (cAt s p) = false := by rw [hc]; rfl
  have hf := Jm isNotLf h
  rw [h4, h6]
  simp [hlen _ hf]
end Go.Rk
namespace Go.Rk
open Go Go.RowKit
structure Two (base : Nat) (ts cs : List Tok) (a b : Value) (w : World) : Prop where
  ht : Toks base ts a w
  hc : Toks base cs b w
  n3 : ∀ k, a.ownBlock = some k → b.ownBlock ≠ some k
theorem Two.grow {base : Nat} {ts cs : List Tok} {a b : Value} {w w' : World} (h : Two base ts cs a b w) (g : G w w') : Two base ts cs a b w' := ⟨Zca h.ht g, Zca h.hc g, h.n3⟩
theorem Two.putT {base : Nat} {ts cs : List Tok} {a b : Value} {w w1 : World} {ta' : Option Addr} {m tc' : Nat} {t : Tok} {xs : List Value} (h : Two base ts cs a b w) (h1 : w1.ownsRow base Vf 3 (.slice ta' m tc') m xs) (hg : w.grownBy w1 a.ownBlock)
    (hat : (Value.slice ta' m tc').ownBlock = a.ownBlock ∨ (Value.slice ta' m tc').ownBlock = some w.heap.size) (hm : m = ts.length + 1) (hx : xs = toksCells ts ++ tokCells t) : Two base (ts ++ [t]) cs (.slice ta' m tc') b w1 := by
  subst hm hx
  refine ⟨?_, Vxa h.hc h.n3 hg, Zia h.hc h.n3 hat⟩
  unfold Toks
  rw [List.length_append, Qe]
  exact h1
theorem Two.putC {base : Nat} {ts cs : List Tok} {a b : Value} {w w1 : World} {ta' : Option Addr} {m tc' : Nat} {t : Tok} {xs : List Value} (h : Two base ts cs a b w) (h1 : w1.ownsRow base Vf 3 (.slice ta' m tc') m xs) (hg : w.grownBy w1 b.ownBlock)
    (hat : (Value.slice ta' m tc').ownBlock = b.ownBlock ∨ (Value.slice ta' m tc').ownBlock = some w.heap.size) (hm : m = cs.length + 1) (hx : xs = toksCells cs ++ tokCells t) : Two base ts (cs ++ [t]) a (.slice ta' m tc') w1 := by
  subst hm hx
  have n3' : ∀ k, b.ownBlock = some k → a.ownBlock ≠ some k := fun k hk he => h.n3 k he hk
  refine ⟨Vxa h.ht n3' hg, ?_, fun k hk he => Zia h.ht n3' hat k he hk⟩
  unfold Toks
  rw [List.length_append, Qe]
  exact h1
theorem Two.below {base : Nat} {ts cs : List Tok} {a b : Value} {w0 w w1 : World} (h : Two base ts cs a b w) (g : Below base w0 w) (hz : base ≤ w.heap.size) (hg : w.grownBy w1 a.ownBlock) : Below base w0 w1 := Vd g hg hz (fun k hk => (h.ht.lt k hk).1)
theorem Two.belowC {base : Nat} {ts cs : List Tok} {a b : Value} {w0 w w1 : World} (h : Two base ts cs a b w) (g : Below base w0 w) (hz : base ≤ w.heap.size) (hg : w.grownBy w1 b.ownBlock) : Below base w0 w1 := Vd g hg hz (fun k hk => (h.hc.lt k hk).1)
theorem nextF_le {s : List UInt8} {p : Nat} (ts cs : List Tok) (h : p < s.length) : (nextF s p ts cs).1 ≤ s.length := by
  have f1 := Jm isNotLf h
  have f2 := Jm isAlnum h
  have f3 := Jm digitB h
  have f4 := opLenR_le (s.drop p)
  rw [List.length_drop] at f4
  unfold nextF
  rw [opLen_R]
  cases decide (cAt s p = 10)
  · cases ((decide (cAt s p = 32) || decide (cAt s p = 9)) || decide (cAt s p = 13))
    · cases preB [47, 47] (s.drop p)
      · cases letterB (cAt s p)
        · cases digitB (cAt s p)
          · cases Nat.beq (opLenR (s.drop p)) 0
            · simp only [cond_true, cond_false]; omega
            · simp only [cond_true, cond_false]; omega
          · cases badD s p (runN digitB (s.drop p))
            · cases decide (valN 0 ((s.drop p).take (runN digitB (s.drop p))) < 9223372036854775808)
              · simp only [cond_true, cond_false]; omega
              · simp only [cond_true, cond_false]; omega
            · simp only [cond_true, cond_false]; omega
        · cases decide ((32 : Int) < runN isAlnum (s.drop p))
          · simp only [cond_true, cond_false]; omega
          · simp only [cond_true, cond_false]; omega
      · simp only [cond_true, cond_false]; omega
    · simp only [cond_true, cond_false]; omega
  · simp only [cond_true, cond_false]; omega
def lastT (ts : List Tok) : Tok := ts.getLast?.getD ⟨0, [], 0⟩
theorem nlTs_eq (p : Nat) (ts : List Tok) : nlTs p ts = bif decide ((0 : Int) < ts.length) && endsT (lastT ts) then ts ++ [⟨4, [59], p⟩] else ts := by
  unfold nlTs lastT
  rcases List.eq_nil_or_concat ts with rfl | ⟨l, x, e⟩
  · rfl
  · have e : ts = l ++ [x] := by simpa using e
    rw [e, decide_eq_true (by simp : (0 : Int) < ((l ++ [x]).length : Nat))]
    simp only [List.getLast?_append, List.getLast?_singleton, Option.some_or, Option.getD_some, Bool.true_and]
    cases h : endsT x <;> simp
theorem last_at {base : Nat} {ts : List Tok} {ta : Option Addr} {tc : Nat} {u : World} (h : Toks base ts (.slice ta ts.length tc) u) : ∃ bt, 0 < ts.length → ta = some ⟨bt, 0, none⟩ ∧ RowAt u bt (0 + ((ts.length : Nat) - 1 : Int).toNat * 3) (tokCells (lastT ts)) := by
  rcases List.eq_nil_or_concat ts with rfl | ⟨l, x, e⟩
  · exact ⟨0, fun h => absurd h (by simp)⟩
  · have e : ts = l ++ [x] := by simpa using e
    subst e
    obtain ⟨bt, ct, ev, _, hrow, _⟩ := Qyb h (by simp)
    injection ev with e1 e2 e3
    refine ⟨bt, fun _ => ⟨e1, ?_⟩⟩
    rw [show lastT (l ++ [x]) = x by simp [lastT]]
    exact row_last hrow
def allR (s : List UInt8) : List Tok × List Tok × Nat × Int := ((allF s).2.1, (allF s).2.2.1, bif !decide ((allF s).2.2.2 = 0) then (allF s).1 else 0, (allF s).2.2.2)
theorem rall_ok (s : List UInt8) (w : World) : Ret PP fn_r02_All #[Str s] w fun v w' => ∃ a b, v = .tuple #[a, b, .int .i64 (allR s).2.2.1, .int .i64 (allR s).2.2.2] ∧ Two w.heap.size (allR s).1 (allR s).2.1 a b w' ∧ G w w' := by
  have g := G.refl w
  refine Ym (m := 78) func_r02_All rfl rfl [(0, True, _)] (Za rfl (Zd _)) ?_
  refine Zg fun K1 hK1 => ?_
  refine Zf [3, 3, 3, 3] ?_
  refine Zc rfl (fun _ => Ze Zl) ?_
  refine Zc rfl (fun _ => Ze Zl) ?_
  refine Zc rfl (fun _ => Ze Zl) ?_
  refine Zc rfl (fun _ => Ze Zl) ?_
  refine Zh (hK1 _ _ ?_)
  refine Zg fun K2 hK2 => ?_
  refine Zg fun K3 hK3 => ?_
  refine Zf [3, 3, 3] ?_
  refine Zc rfl (fun _ => Zi (Zb rfl)) ?_
  refine Zc rfl (fun _ => Wz Yv (Zb rfl)) ?_
  refine Zc rfl (fun _ => Js (Zb rfl) Zl) ?_
  refine Zj [(0, _, _), (2, _, _), (3, _, _), (4, _, _), (5, _, _), (13, _, _)] (Za rfl (Za rfl (Za rfl (Za rfl (Za rfl (Za rfl (Zd _))))))) ?_
  refine Zh (hK3 _ _ ?_)
  refine Zz (Zb rfl) (fun h1 => ?_) (fun h1 => ?_)
  · have hN : allF s = (0, [], [], 3) := by unfold allF; rw [h1]; rfl
    refine Zg fun K4 hK4 => ?_
    refine Zf [3, 3, 3, 3] ?_
    refine Zc rfl (fun _ => Ze Zl) ?_
    refine Zc rfl (fun _ => Ze Zl) ?_
    refine Zc rfl (fun _ => Ze Zl) ?_
    refine Zc rfl (fun _ => Ze Zl) ?_
    refine Zj [(0, _, _), (2, _, _), (3, _, _), (4, _, _), (5, _, _)] (Za rfl (Za rfl (Za rfl (Za rfl (Za rfl (Zd _)))))) ?_
    refine Zh (hK4 _ _ ?_)
    refine Yf (Zsa (ts := [2, 3, 4, 5]) (vs := [_, _, _, _]) rfl rfl rfl ?_)
    rw [allR, hN]; exact ⟨_, _, rfl, ⟨Qq _ _ _ _, Qq _ _ _ _, (by intro k h; cases h)⟩, g⟩
  have hN : allF s = goF s s.length 0 [] [] := by unfold allF; rw [h1]; rfl
  simp only [decide_eq_false_iff_not] at h1
  refine Yq (hK2 _ _ ?_)
  refine Yi [(0, _, _), (2, _, _), (3, _, _), (4, _, _), (5, _, _)] (Za rfl (Za rfl (Za rfl (Za rfl (Za rfl (Zd _)))))) ?_
  refine Zg fun K5 hK5 => ?_
  refine Zf [3, 3] ?_
  refine Zc rfl (fun _ => Ze Zl) ?_
  refine Zc rfl (fun _ => Ze Zl) ?_
  refine Zh (hK5 _ _ ?_)
  refine Zg fun K6 hK6 => ?_
  refine Zf [3] ?_
  refine Zc rfl (fun _ => Ze Zl) ?_
  refine Zh (hK6 _ _ ?_)
  refine Zg fun K7 hK7 => ?_
  refine Yp ?_
  refine Zba (fun (x : Nat × List Tok × List Tok × Nat × (Option Addr × Nat) × (Option Addr × Nat)) u => Two w.heap.size x.2.1 x.2.2.1 (.slice x.2.2.2.2.1.1 x.2.1.length x.2.2.2.2.1.2) (.slice x.2.2.2.2.2.1 x.2.2.1.length x.2.2.2.2.2.2) u ∧ x.2.1.length ≤ x.1 ∧ x.2.2.1.length ≤ x.1 ∧ x.1 ≤ s.length ∧ s.length - x.1 ≤ x.2.2.2.1 ∧ goF s x.2.2.2.1 x.1 x.2.1 x.2.2.1 = goF s s.length 0 [] [] ∧ G w u)
    (fun x => [(0, True, Str s), (6, True, .slice x.2.2.2.2.1.1 x.2.1.length x.2.2.2.2.1.2), (7, True, .slice x.2.2.2.2.2.1 x.2.2.1.length x.2.2.2.2.2.2), (8, True, .int .i64 x.1)]) (fun x => s.length - x.1) (0, [], [], s.length, (none, 0), (none, 0))
    ⟨⟨Qq _ _ _ _, Qq _ _ _ _, (by intro k h; cases h)⟩, Nat.le_refl _, Nat.le_refl _, Nat.zero_le _, Nat.sub_le _ _, rfl, g⟩ (Za rfl (Za rfl (Za rfl (Za rfl (Zd _))))) ?_
  rintro ⟨p, ts, cs, f, ⟨ta, tc⟩, ⟨ca, cc⟩⟩ u ⟨hT, k1, k2, k3, hf, he, hw⟩
  replace hT : Two w.heap.size ts cs (.slice ta ts.length tc) (.slice ca cs.length cc) u := hT
  replace k1 : ts.length ≤ p := k1
  replace k2 : cs.length ≤ p := k2
  replace k3 : p ≤ s.length := k3
  replace hf : s.length - p ≤ f := hf
  replace he : goF s f p ts cs = goF s s.length 0 [] [] := he
  have g := G.refl u
  refine Zg fun K8 hK8 => ?_
  refine Zg fun K9 hK9 => ?_
  refine Zf [3, 3, 3, 3] ?_
  refine Zc rfl (fun _ => Zi (Zb rfl)) ?_
  refine Zc rfl (fun _ => Zi (Zb rfl)) ?_
  refine Zc rfl (fun _ => Wz Yv (Zb rfl)) ?_
  refine Zc rfl (fun _ => Vh (Zb rfl) (Zb rfl)) ?_
  refine Zj [(0, _, _), (6, _, _), (7, _, _), (8, _, _), (17, _, _)] (Za rfl (Za rfl (Za rfl (Za rfl (Za rfl (Zd _)))))) ?_
  refine Zh (hK9 _ _ ?_)
  refine Zz (Zb rfl) (fun h2 => ?_) (fun h2 => ?_)
  · replace h2 : p < s.length := by simp only [decide_eq_true_eq] at h2; omega
    obtain ⟨f', rfl⟩ : ∃ f', f = f' + 1 := ⟨f - 1, by omega⟩
    rw [goF, decide_eq_true h2, cond_true] at he
    have hle := nextF_le ts cs h2
    refine Yq (hK8 _ _ ?_)
    refine Yi [(0, _, _), (6, _, _), (7, _, _), (8, _, _)] (Za rfl (Za rfl (Za rfl (Za rfl (Zd _))))) ?_
    refine Yp ?_
    refine Zg fun K10 hK10 => ?_
    refine Zg fun K11 hK11 => ?_
    refine Zf [3, 3, 3] ?_
    refine Zc rfl (fun _ => Zi (Zb rfl)) ?_
    refine Zc rfl (fun _ => Zi (Zb rfl)) ?_
    refine Zc rfl (fun _ => Uf Yv (Zb rfl) (Zb rfl) (fun _ => by show 0 ≤ (p : Int) ∧ (p : Int) < s.length; omega)) ?_
    refine Zj [(0, _, _), (6, _, _), (7, _, _), (8, _, _), (20, _, _)] (Za rfl (Za rfl (Za rfl (Za rfl (Za rfl (Zd _)))))) ?_
    refine Zh (hK11 _ _ ?_)
    refine Yp ?_
    refine Zg fun K12 hK12 => ?_
    refine Zg fun K13 hK13 => ?_
    refine Zf [3, 3] ?_
    refine Zc rfl (fun _ => Yg (Zb rfl) Zl) ?_
    refine Zc rfl (fun _ => Ze (Zb rfl)) ?_
    refine Zj [(0, _, _), (6, _, _), (7, _, _), (8, _, _), (20, _, _), (21, _, _)] (Za rfl (Za rfl (Za rfl (Za rfl (Za rfl (Za rfl (Zd _))))))) ?_
    refine Zh (hK13 _ _ ?_)
    refine' Yk [(0, _, _), (6, _, _), (7, _, _), (8, _, _), (20, _, _)] (Za rfl (Za rfl (Za rfl (Za rfl (Za rfl (Za rfl (Zd _))))))) rfl (fun hb3 => ?y3) (hK12 _ _ ?n3)
    case y3 =>
     refine Zg fun K14 hK14 => ?_
     refine Zf [3, 3] ?_
     refine Zc rfl (fun _ => Yg (Zb rfl) Zl) ?_
     refine Zc rfl (fun _ => Ze (Zb rfl)) ?_
     refine Zj [(0, _, _), (6, _, _), (7, _, _), (8, _, _), (20, _, _), (21, _, _)] (Za rfl (Za rfl (Za rfl (Za rfl (Za rfl (Za rfl (Zd _))))))) ?_
     refine Zh (hK14 _ _ ?_)
     refine' Yk [(0, _, _), (6, _, _), (7, _, _), (8, _, _), (20, _, _)] (Za rfl (Za rfl (Za rfl (Za rfl (Za rfl (Za rfl (Zd _))))))) rfl (fun hb4 => ?y4) (fun a ha => ⟨ha, rfl⟩)
     case y4 =>
      refine Zf [3, 3] ?_
      refine Zc rfl (fun _ => Yg (Zb rfl) Zl) ?_
      refine Zc rfl (fun _ => Ze (Zb rfl)) ?_
      refine Zj [(21, _, _), (0, _, _), (6, _, _), (7, _, _), (8, _, _), (20, _, _)] (Za rfl (Za rfl (Za rfl (Za rfl (Za rfl (Za rfl (Zd _))))))) ?_
      exact Zh (fun a ha => ⟨ha, rfl⟩)
    case n3 =>
     refine Zz (Zb rfl) (fun h5 => ?_) (fun h5 => ?_)
     · replace h5 : (decide (cAt s p = 32) || (decide (cAt s p = 9) || decide (cAt s p = 13))) = true := h5
       have h10 : decide (cAt s p = 10) = false := by
         simp only [Bool.or_eq_true, decide_eq_true_eq] at h5
         rw [decide_eq_false_iff_not]; omega
       rw [← Bool.or_assoc] at h5
       have hst : nextF s p ts cs = (p + 1, ts, cs, 0) := by unfold nextF; rw [h10, h5]; rfl
       rw [hst] at he hle
       refine Zg fun K15 hK15 => ?_
       refine Zf [3, 3, 3] ?_
       refine Zc rfl (fun _ => Zi (Zb rfl)) ?_
       refine Zc rfl (fun _ => Xq (Zb rfl) Zl (fun _ => by show _ ≤ (p : Int) + 1 ∧ (p : Int) + 1 ≤ _; omega)) ?_
       refine Zc rfl (fun _ => Ze (Zb rfl)) ?_
       refine Zj [(0, _, _), (6, _, _), (7, _, _), (8, _, _)] (Za rfl (Za rfl (Za rfl (Za rfl (Zd _))))) ?_
       refine Zh (hK15 _ _ ?_)
       refine Yi [(0, _, _), (6, _, _), (7, _, _), (8, _, _)] (Za rfl (Za rfl (Za rfl (Za rfl (Zd _))))) ?_
       refine Wa rfl (fun a ha => ?_)
       exact ⟨(p + 1, ts, cs, f', (ta, tc), (ca, cc)), ha, ⟨hT.grow g, by show ts.length ≤ p + 1; omega, by show cs.length ≤ p + 1; omega, h2, by show s.length - (p + 1) ≤ f'; omega, he, hw.trans g⟩, by show s.length - (p + 1) < s.length - p; omega⟩
     replace h5 : (decide (cAt s p = 32) || (decide (cAt s p = 9) || decide (cAt s p = 13))) = false := h5
     rw [← Bool.or_assoc] at h5
     refine Zg fun K16 hK16 => ?_
     refine Zf [3, 3] ?_
     refine Zc rfl (fun _ => Yg (Zb rfl) Zl) ?_
     refine Zc rfl (fun _ => Ze (Zb rfl)) ?_
     refine Zj [(0, _, _), (6, _, _), (7, _, _), (8, _, _), (27, _, _)] (Za rfl (Za rfl (Za rfl (Za rfl (Za rfl (Zd _)))))) ?_
     refine Zh (hK16 _ _ ?_)
     refine Zz (Zb rfl) (fun h6 => ?_) (fun h6 => ?_)
     · replace h6 : decide (cAt s p = 10) = true := h6
       have hst : nextF s p ts cs = (p + 1, nlTs p ts, cs, 0) := by unfold nextF; rw [h6]; rfl
       rw [nlTs_eq] at hst
       obtain ⟨bt, hbt⟩ := last_at hT.ht
       refine Zg fun K17 hK17 => ?_
       refine Zg fun K18 hK18 => ?_
       refine Zf [3, 3, 3, 3, 3, 3, 3, 3, 3, 0, 1, 3] ?_
       refine Zc rfl (fun _ => Zi (Zb rfl)) ?_
       refine Zc rfl (fun _ => Xx Xk (Zb rfl)) ?_
       refine Zc rfl (fun _ => Js (Zb rfl) Zl) ?_
       refine Zc rfl (fun _ => Zi (Zb rfl)) ?_
       refine Zs rfl rfl rfl (fun _ => Zi (Zb rfl)) ?_
       refine Zs rfl rfl rfl (fun _ => Zi (Zb rfl)) ?_
       refine Zs rfl rfl rfl (fun _ => Xx Xk (Zy rfl id)) ?_
       refine Zs rfl rfl rfl (fun _ => rd_sub (Zy rfl id) Zl (fun hc => by show _ ≤ (ts.length : Int) - 1 ∧ (ts.length : Int) - 1 ≤ _; omega)) ?_
       refine Zs rfl rfl rfl (fun _ => Uc Xk (Ev.to (v' := .slice (some ⟨bt, 0, none⟩) ts.length tc) (Zy rfl id) (fun hc => by rw [(hbt (by have : (0 : Int) < ts.length := of_decide_eq_true hc.2; omega)).1])) (Zy rfl id) (fun hc => by have : (0 : Int) < ts.length := of_decide_eq_true hc.2; show 0 ≤ (ts.length : Int) - 1 ∧ (ts.length : Int) - 1 < ts.length; omega)) ?_
       refine Yr rfl rfl rfl (Yb Wc (Zy rfl id) rfl (fun hc => ((hbt (by have : (0 : Int) < ts.length := of_decide_eq_true hc.2; omega)).2).grow g)) ?_
       refine Xb rfl rfl rfl (fun _ => (Zu go_r02_ends Yl (Zk (Zy rfl id) (Zn)) rfl)) (fun hc => ends_ok (lastT ts) _) (fun w39 g39 => ?_)
       have g := g.trans (g39)
       refine Zc rfl (fun _ => Ye (Zb rfl) (Zy rfl id)) ?_
       refine Zj [(0, _, _), (6, _, _), (7, _, _), (8, _, _), (40, _, _)] (Za rfl (Za rfl (Za rfl (Za rfl (Za rfl (Zd _)))))) ?_
       refine Zh (hK18 _ _ ?_)
       refine Zz (Zb rfl) (fun h7 => ?_) (fun h7 => ?_)
       · rw [show (decide ((0 : Int) < ts.length) && endsT (lastT ts)) = true from h7, cond_true] at hst
         rw [hst] at he hle
         have hlm : (ts ++ [(⟨4, [59], p⟩ : Tok)]).length = ts.length + 1 := by simp
         refine Zf [3, 3, 3, 1, 2, 3] ?_
         refine Zc rfl (fun _ => Zi (Zb rfl)) ?_
         refine Zc rfl (fun _ => Zi (Zb rfl)) ?_
         refine Zc rfl (fun _ => We [_, _, _] Xn rfl Vw (Zp Zl (Zp Zl (Zp (Zb rfl) (Yc)))) rfl) ?_
         refine Zx [_, _, _] rfl Xk Xn (Zp (Zb rfl) (Yc)) rfl rfl ?_
         intro b44 w44 N44
         have l44 := N44.ge g
         have g := g.trans (N44.g)
         have B44 := N44.blk
         have hw := hw.trans g
         have hT := hT.grow g
         have hz0 := hw.size
         refine Jt rfl Xk Xn rfl (by decide) (Zb rfl) hT.ht (Zb rfl) rfl N44.blk.row rfl (by simp only [maxLen]; omega) (by omega) (by omega) ?_
         intro ta' tc' w45 ht' hg45 hat
         have hw : G w w45 := hT.below hw hw.size hg45
         have hT := hT.putT (t := ⟨4, [59], p⟩) ht' hg45 hat rfl rfl
         rw [← hlm]
         rw [← hlm] at hT
         have g := G.refl w45
         refine Zc rfl (fun _ => Ze (Zb rfl)) ?_
         refine Zj [(0, _, _), (6, _, _), (7, _, _), (8, _, _)] (Za rfl (Za rfl (Za rfl (Za rfl (Zd _))))) ?_
         refine Zh (hK17 _ _ ?_)
         refine Zg fun K19 hK19 => ?_
         refine Zf [3, 3, 3] ?_
         refine Zc rfl (fun _ => Zi (Zb rfl)) ?_
         refine Zc rfl (fun _ => Xq (Zb rfl) Zl (fun _ => by show _ ≤ (p : Int) + 1 ∧ (p : Int) + 1 ≤ _; omega)) ?_
         refine Zc rfl (fun _ => Ze (Zb rfl)) ?_
         refine Zj [(0, _, _), (6, _, _), (7, _, _), (8, _, _)] (Za rfl (Za rfl (Za rfl (Za rfl (Zd _))))) ?_
         refine Zh (hK19 _ _ ?_)
         refine Yi [(0, _, _), (6, _, _), (7, _, _), (8, _, _)] (Za rfl (Za rfl (Za rfl (Za rfl (Zd _))))) ?_
         refine Wa rfl (fun a ha => ?_)
         exact ⟨(p + 1, _, cs, f', (ta', tc'), (ca, cc)), ha, ⟨hT.grow g, by show (ts ++ [(⟨4, [59], p⟩ : Tok)]).length ≤ p + 1; omega, by show cs.length ≤ p + 1; omega, h2, by show s.length - (p + 1) ≤ f'; omega, he, hw.trans g⟩, by show s.length - (p + 1) < s.length - p; omega⟩
       rw [show (decide ((0 : Int) < ts.length) && endsT (lastT ts)) = false from h7, cond_false] at hst
       rw [hst] at he hle
       refine Yq (hK17 _ _ ?_)
       refine Yi [(0, _, _), (6, _, _), (7, _, _), (8, _, _)] (Za rfl (Za rfl (Za rfl (Za rfl (Zd _))))) ?_
       refine Zg fun K20 hK20 => ?_
       refine Zf [3, 3, 3] ?_
       refine Zc rfl (fun _ => Zi (Zb rfl)) ?_
       refine Zc rfl (fun _ => Xq (Zb rfl) Zl (fun _ => by show _ ≤ (p : Int) + 1 ∧ (p : Int) + 1 ≤ _; omega)) ?_
       refine Zc rfl (fun _ => Ze (Zb rfl)) ?_
       refine Zj [(0, _, _), (6, _, _), (7, _, _), (8, _, _)] (Za rfl (Za rfl (Za rfl (Za rfl (Zd _))))) ?_
       refine Zh (hK20 _ _ ?_)
       refine Yi [(0, _, _), (6, _, _), (7, _, _), (8, _, _)] (Za rfl (Za rfl (Za rfl (Za rfl (Zd _))))) ?_
       refine Wa rfl (fun a ha => ?_)
       exact ⟨(p + 1, ts, cs, f', (ta, tc), (ca, cc)), ha, ⟨hT.grow g, by show ts.length ≤ p + 1; omega, by show cs.length ≤ p + 1; omega, h2, by show s.length - (p + 1) ≤ f'; omega, he, hw.trans g⟩, by show s.length - (p + 1) < s.length - p; omega⟩
     replace h6 : decide (cAt s p = 10) = false := h6
     have hst := nextF_tok ts cs h2 (by rw [h6, h5]; rfl)
     refine Yq (hK10 _ _ ?_)
     refine Yi [(0, _, _), (6, _, _), (7, _, _), (8, _, _)] (Za rfl (Za rfl (Za rfl (Za rfl (Zd _))))) ?_
     refine Zg fun K21 hK21 => ?_
     refine Zf [3, 3, 1, 3, 3, 3, 1, 2, 3] ?_
     refine Zc rfl (fun _ => Zi (Zb rfl)) ?_
     refine Zc rfl (fun _ => Zi (Zb rfl)) ?_
     refine Xe rfl (Zu go_r02_next Yl (Zk (Zb rfl) (Zk (Zb rfl) (Zn))) rfl) (rnext_ok s p h2 (by omega) _) (fun w51 g51 => ?_)
     have g := g.trans (g51)
     refine Zc rfl (fun _ => Zi (Zb rfl)) ?_
     refine Zc rfl (fun _ => Wu (Zb rfl) rfl) ?_
     refine Zc rfl (fun _ => Wu (Zb rfl) rfl) ?_
     refine Xr rfl Xn rfl ?_
     intro b9 w9 N9
     have l9 := N9.ge g
     have g := g.trans (N9.g)
     have B9 := N9.blk
     refine Yu rfl Vg (Zb rfl) (Zb rfl) rfl rfl B9 rfl rfl ?_
     intro wS1 hgS1 hzS1
     clear B9
     intro B9
     have g := Xo g hgS1 (by intro k hk; injection hk with hk; omega)
     refine Zc rfl (fun _ => Ze (Zb rfl)) ?_
     refine Zh (hK21 _ _ ?_)
     refine Yi [(0, _, _), (6, _, _), (7, _, _), (8, _, _), (9, _, _), (10, _, _), (48, _, _), (49, _, _), (50, _, _), (51, _, _), (52, _, _), (53, _, _)] (Za rfl (Za rfl (Za rfl (Za rfl (Za rfl (Za rfl (Za rfl (Za rfl (Za rfl (Za rfl (Za rfl (Za rfl (Zd _))))))))))))) ?_
     refine Zg fun K22 hK22 => ?_
     refine Zg fun K23 hK23 => ?_
     refine Zf [3, 3] ?_
     refine Zc rfl (fun _ => Zi (Zb rfl)) ?_
     refine Zc rfl (fun _ => Qi (Zb rfl) Zl) ?_
     refine Zh (hK23 _ _ ?_)
     refine Zz (Zb rfl) (fun h8 => ?_) (fun h8 => ?_)
     · rw [show (!decide ((nextR s p).2 = 0)) = true from h8, cond_true] at hst
       have h0 : ¬ (nextR s p).2 = 0 := by simpa using h8
       rw [hst] at he
       replace he : (bif decide ((nextR s p).2 = 0) then goF s f' p ts cs else (p, ts, cs, (nextR s p).2)) = goF s s.length 0 [] [] := he
       rw [decide_eq_false h0, cond_false] at he
       have hA : allR s = (ts, cs, p, (nextR s p).2) := by rw [allR, hN, ← he]; simp only; rw [decide_eq_false h0]; rfl
       refine Zg fun K24 hK24 => ?_
       refine Zf [3, 3, 3, 3, 3, 3, 3, 3] ?_
       refine Zc rfl (fun _ => Zi (Zb rfl)) ?_
       refine Zc rfl (fun _ => Zi (Zb rfl)) ?_
       refine Zc rfl (fun _ => Zi (Zb rfl)) ?_
       refine Zc rfl (fun _ => Zi (Zb rfl)) ?_
       refine Zc rfl (fun _ => Ze (Zb rfl)) ?_
       refine Zc rfl (fun _ => Ze (Zb rfl)) ?_
       refine Zc rfl (fun _ => Ze (Zb rfl)) ?_
       refine Zc rfl (fun _ => Ze (Zb rfl)) ?_
       refine Zh (hK24 _ _ ?_)
       refine Yi [(0, _, _), (2, _, _), (3, _, _), (4, _, _), (5, _, _), (6, _, _), (7, _, _), (8, _, _), (9, _, _), (10, _, _), (48, _, _), (49, _, _), (50, _, _), (51, _, _), (52, _, _), (53, _, _), (54, _, _), (55, _, _), (56, _, _), (57, _, _), (58, _, _), (59, _, _)] (Za rfl (Za rfl (Za rfl (Za rfl (Za rfl (Za rfl (Za rfl (Za rfl (Za rfl (Za rfl (Za rfl (Za rfl (Za rfl (Za rfl (Za rfl (Za rfl (Za rfl (Za rfl (Za rfl (Za rfl (Za rfl (Za rfl (Zd _))))))))))))))))))))))) ?_
       refine Yf (Zsa (ts := [2, 3, 4, 5]) (vs := [_, _, _, _]) rfl rfl rfl ?_)
       rw [hA]; exact ⟨_, _, rfl, hT.grow g, hw.trans g⟩
     rw [show (!decide ((nextR s p).2 = 0)) = false from h8, cond_false] at hst
     refine Yq (hK22 _ _ ?_)
     refine Zg fun K25 hK25 => ?_
     refine Zg fun K26 hK26 => ?_
     refine Zf [3, 0, 3] ?_
     refine Zc rfl (fun _ => Zm Qd (Zb rfl)) ?_
     refine Ya rfl (Zt Yy (Zb rfl) (fun _ => B9.at_ rfl)) ?_
     refine Zc rfl (fun _ => Yg (Zb rfl) Zl) ?_
     refine Zh (hK26 _ _ ?_)
     refine Zz (Zb rfl) (fun h9 => ?_) (fun h9 => ?_)
     · rw [show decide ((nextR s p).1.kind = 5) = true from h9, cond_true] at hst
       have hlt := Zyc (ts := ts) (cs := cs) h2 (by rw [hst])
       rw [hst] at he hle hlt
       replace hle : p + (nextR s p).1.text.length ≤ s.length := hle
       replace hlt : p < p + (nextR s p).1.text.length := hlt
       have hlm : (cs ++ [(nextR s p).1]).length = cs.length + 1 := by simp
       refine Zf [3, 0, 1, 2, 3] ?_
       refine Zc rfl (fun _ => Zi (Zb rfl)) ?_
       refine Ya rfl (Yb Wc (Zb rfl) rfl (fun _ => B9.row)) ?_
       refine Zx [_, _, _] rfl Xk Xn (Zp (Zb rfl) (Yc)) rfl rfl ?_
       intro b65 w65 N65
       have x65_9 := N65.ne B9
       have l65 := N65.ge g
       have g := g.trans (N65.g)
       replace B9 := B9.grow (N65.g)
       have B65 := N65.blk
       have q9 : (Value.slice ca cs.length cc).ownBlock ≠ some b9 := own_ne hT.hc l9
       have hw := hw.trans g
       have hT := hT.grow g
       have hz0 := hw.size
       refine Jt rfl Xk Xn rfl (by decide) (Zb rfl) hT.hc (Zb rfl) rfl N65.blk.row rfl (by simp only [maxLen]; omega) (by omega) (by omega) ?_
       intro ta' tc' w66 ht' hg66 hat
       have hw : G w w66 := hT.belowC hw hw.size hg66
       have B9 := B9.keep hg66 (Ne.symm q9)
       have hT := hT.putC (t := (nextR s p).1) ht' hg66 hat rfl rfl
       rw [← hlm]
       rw [← hlm] at hT
       have g := G.refl w66
       refine Zc rfl (fun _ => Ze (Zb rfl)) ?_
       refine Zh (hK25 _ _ ?_)
       refine Zf [3, 3, 0, 3, 3, 3] ?_
       refine Zc rfl (fun _ => Zi (Zb rfl)) ?_
       refine Zc rfl (fun _ => Zm Vz (Zb rfl)) ?_
       refine Ya rfl (Zt Yt (Zb rfl) (fun _ => B9.at_ rfl)) ?_
       refine Zc rfl (fun _ => Wz Yv (Zb rfl)) ?_
       refine Zc rfl (fun _ => Xq (Zb rfl) (Zb rfl) (fun _ => by show _ ≤ (p : Int) + ((nextR s p).1.text.length : Nat) ∧ (p : Int) + ((nextR s p).1.text.length : Nat) ≤ _; omega)) ?_
       refine Zc rfl (fun _ => Ze (Zb rfl)) ?_
       refine Zj [(0, _, _), (6, _, _), (7, _, _), (8, _, _)] (Za rfl (Za rfl (Za rfl (Za rfl (Zd _))))) ?_
       refine Zh (fun a ha => ?_)
       exact ⟨(p + (nextR s p).1.text.length, ts, _, f', (ta, tc), (ta', tc')), ha, ⟨hT.grow g, by show ts.length ≤ p + (nextR s p).1.text.length; omega, by show (cs ++ [(nextR s p).1]).length ≤ p + (nextR s p).1.text.length; omega, hle, by show s.length - (p + (nextR s p).1.text.length) ≤ f'; omega, he, hw.trans g⟩, by show s.length - (p + (nextR s p).1.text.length) < s.length - p; omega⟩
     rw [show decide ((nextR s p).1.kind = 5) = false from h9, cond_false] at hst
     have hlt := Zyc (ts := ts) (cs := cs) h2 (by rw [hst])
     rw [hst] at he hle hlt
     replace hle : p + (nextR s p).1.text.length ≤ s.length := hle
     replace hlt : p < p + (nextR s p).1.text.length := hlt
     have hlm : (ts ++ [(nextR s p).1]).length = ts.length + 1 := by simp
     refine Zf [3, 0, 1, 2, 3] ?_
     refine Zc rfl (fun _ => Zi (Zb rfl)) ?_
     refine Ya rfl (Yb Wc (Zb rfl) rfl (fun _ => B9.row)) ?_
     refine Zx [_, _, _] rfl Xk Xn (Zp (Zb rfl) (Yc)) rfl rfl ?_
     intro b69 w69 N69
     have x69_9 := N69.ne B9
     have l69 := N69.ge g
     have g := g.trans (N69.g)
     replace B9 := B9.grow (N69.g)
     have B69 := N69.blk
     have q9 : (Value.slice ta ts.length tc).ownBlock ≠ some b9 := own_ne hT.ht l9
     have hw := hw.trans g
     have hT := hT.grow g
     have hz0 := hw.size
     refine Jt rfl Xk Xn rfl (by decide) (Zb rfl) hT.ht (Zb rfl) rfl N69.blk.row rfl (by simp only [maxLen]; omega) (by omega) (by omega) ?_
     intro ta' tc' w70 ht' hg70 hat
     have hw : G w w70 := hT.below hw hw.size hg70
     have B9 := B9.keep hg70 (Ne.symm q9)
     have hT := hT.putT (t := (nextR s p).1) ht' hg70 hat rfl rfl
     rw [← hlm]
     rw [← hlm] at hT
     have g := G.refl w70
     refine Zc rfl (fun _ => Ze (Zb rfl)) ?_
     refine Zh (hK25 _ _ ?_)
     refine Zf [3, 3, 0, 3, 3, 3] ?_
     refine Zc rfl (fun _ => Zi (Zb rfl)) ?_
     refine Zc rfl (fun _ => Zm Vz (Zb rfl)) ?_
     refine Ya rfl (Zt Yt (Zb rfl) (fun _ => B9.at_ rfl)) ?_
     refine Zc rfl (fun _ => Wz Yv (Zb rfl)) ?_
     refine Zc rfl (fun _ => Xq (Zb rfl) (Zb rfl) (fun _ => by show _ ≤ (p : Int) + ((nextR s p).1.text.length : Nat) ∧ (p : Int) + ((nextR s p).1.text.length : Nat) ≤ _; omega)) ?_
     refine Zc rfl (fun _ => Ze (Zb rfl)) ?_
     refine Zj [(0, _, _), (6, _, _), (7, _, _), (8, _, _)] (Za rfl (Za rfl (Za rfl (Za rfl (Zd _))))) ?_
     refine Zh (fun a ha => ?_)
     exact ⟨(p + (nextR s p).1.text.length, _, cs, f', (ta', tc'), (ca, cc)), ha, ⟨hT.grow g, by show (ts ++ [(nextR s p).1]).length ≤ p + (nextR s p).1.text.length; omega, by show cs.length ≤ p + (nextR s p).1.text.length; omega, hle, by show s.length - (p + (nextR s p).1.text.length) ≤ f'; omega, he, hw.trans g⟩, by show s.length - (p + (nextR s p).1.text.length) < s.length - p; omega⟩
  have hp : p = s.length := by simp only [decide_eq_false_iff_not] at h2; omega
  have he : (p, ts, cs, (0 : Int)) = goF s s.length 0 [] [] := by
    rw [← he]
    cases f with
    | zero => rfl
    | succ f' => rw [goF, decide_eq_false (by omega : ¬ p < s.length)]; rfl
  have hA : allR s = (ts, cs, 0, 0) := by rw [allR, hN, ← he]; rfl
  refine Wa rfl (hK7 _ _ ?_)
  refine Yi [(6, _, _), (7, _, _)] (Za rfl (Za rfl (Zd _))) ?_
  refine Zg fun K27 hK27 => ?_
  refine Zf [3, 3, 3, 3, 3, 3] ?_
  refine Zc rfl (fun _ => Zi (Zb rfl)) ?_
  refine Zc rfl (fun _ => Zi (Zb rfl)) ?_
  refine Zc rfl (fun _ => Ze (Zb rfl)) ?_
  refine Zc rfl (fun _ => Ze (Zb rfl)) ?_
  refine Zc rfl (fun _ => Ze Zl) ?_
  refine Zc rfl (fun _ => Ze Zl) ?_
  refine Zh (hK27 _ _ ?_)
  refine Yi [(2, _, _), (3, _, _), (4, _, _), (5, _, _), (6, _, _), (7, _, _), (76, _, _), (77, _, _)] (Za rfl (Za rfl (Za rfl (Za rfl (Za rfl (Za rfl (Za rfl (Za rfl (Zd _))))))))) ?_
  refine Yf (Zsa (ts := [2, 3, 4, 5]) (vs := [_, _, _, _]) rfl rfl rfl ?_)
  rw [hA]; exact ⟨_, _, rfl, hT.grow g, hw.trans g⟩
end Go.Rk
namespace Go.Rk
open Go Go.RowKit
theorem rscan_ok (s : List UInt8) (w : World) : Ret PP fn_r02_Scan #[Str s] w fun v w' => ∃ l, v = .tuple #[l, .int .i64 (scanF s).2.1, .int .i64 (scanF s).2.2] ∧ Toks w.heap.size (scanF s).1 l w' ∧ G w w' := by
 have g := G.refl w
 refine Ym (m := 21) func_r02_Scan rfl rfl [(0, True, _)] (Za rfl (Zd _)) ?_
 refine Zg fun K1 hK1 => ?_
 refine Zf [3, 3, 3] ?_
 refine Zc rfl (fun _ => Ze Zl) ?_
 refine Zc rfl (fun _ => Ze Zl) ?_
 refine Zc rfl (fun _ => Ze Zl) ?_
 refine Zh (hK1 _ _ ?_)
 refine Zg fun K2 hK2 => ?_
 refine Zf [3, 1, 3, 3, 3, 3, 3, 3, 3, 3, 3] ?_
 refine Zc rfl (fun _ => Zi (Zb rfl)) ?_
 refine Yd rfl (Zu go_r02_All Yl (Zk (Zb rfl) (Zn)) rfl) (rall_ok s _) ?_
 rintro v11 w11 ⟨a, b, rfl, hT, g11⟩
 refine ⟨fun _ => g11, ?_⟩
 have g := g.trans g11
 refine Zc rfl (fun _ => Zi (Zb rfl)) ?_
 refine Zc rfl (fun _ => Wu (Zb rfl) rfl) ?_
 refine Zc rfl (fun _ => Wu (Zb rfl) rfl) ?_
 refine Zc rfl (fun _ => Wu (Zb rfl) rfl) ?_
 refine Zc rfl (fun _ => Wu (Zb rfl) rfl) ?_
 refine Zc rfl (fun _ => Ze (Zb rfl)) ?_
 refine Zc rfl (fun _ => Ze (Zb rfl)) ?_
 refine Zc rfl (fun _ => Ze (Zb rfl)) ?_
 refine Zc rfl (fun _ => Ze (Zb rfl)) ?_
 refine Zj [(2, _, _), (3, _, _), (4, _, _), (5, _, _), (7, _, _), (8, _, _)] (Za rfl (Za rfl (Za rfl (Za rfl (Za rfl (Za rfl (Zd _))))))) ?_
 refine Zh (hK2 _ _ ?_)
 refine Zg fun K3 hK3 => ?_
 refine Zg fun K4 hK4 => ?_
 refine Zf [3, 3] ?_
 refine Zc rfl (fun _ => Zi (Zb rfl)) ?_
 refine Zc rfl (fun _ => Qi (Zb rfl) Zl) ?_
 refine Zj [(2, _, _), (3, _, _), (4, _, _), (5, _, _), (7, _, _), (8, _, _), (17, _, _)] (Za rfl (Za rfl (Za rfl (Za rfl (Za rfl (Za rfl (Za rfl (Zd _)))))))) ?_
 refine Zh (hK4 _ _ ?_)
 refine Zz (Zb rfl) (fun h1 => ?_) (fun h1 => ?_)
 ·have h0 : (!decide ((allF s).2.2.2 = 0)) = true := h1
  refine Zg fun K5 hK5 => ?_
  refine Zf [3, 3, 3, 3, 3] ?_
  refine Zc rfl (fun _ => Zi (Zb rfl)) ?_
  refine Zc rfl (fun _ => Zi (Zb rfl)) ?_
  refine Zc rfl (fun _ => Ze Zl) ?_
  refine Zc rfl (fun _ => Ze (Zb rfl)) ?_
  refine Zc rfl (fun _ => Ze (Zb rfl)) ?_
  refine Zj [(2, _, _), (3, _, _), (4, _, _), (5, _, _)] (Za rfl (Za rfl (Za rfl (Za rfl (Zd _))))) ?_
  refine Zh (hK5 _ _ ?_)
  refine Yf (Zsa (ts := [2, 3, 4]) (vs := [_, _, _]) rfl rfl rfl ?_)
  refine ⟨.slice none 0 0, ?_, ?_, g⟩
  ·show Value.tuple #[_, .int .i64 ((bif !decide ((allF s).2.2.2 = 0) then (allF s).1 else 0 : Nat) : Int), _] = _
   rw [scanF, h0]; rfl
  ·rw [scanF, h0]; exact Qq _ _ _ _
 have h0 : (!decide ((allF s).2.2.2 = 0)) = false := h1
 refine Yq (hK3 _ _ ?_)
 refine Yi [(2, _, _), (3, _, _), (4, _, _), (5, _, _)] (Za rfl (Za rfl (Za rfl (Za rfl (Zd _))))) ?_
 refine Zg fun K6 hK6 => ?_
 refine Zf [3, 3, 3, 3] ?_
 refine Zc rfl (fun _ => Zi (Zb rfl)) ?_
 refine Zc rfl (fun _ => Ze (Zb rfl)) ?_
 refine Zc rfl (fun _ => Ze Zl) ?_
 refine Zc rfl (fun _ => Ze Zl) ?_
 refine Zj [(2, _, _), (3, _, _), (4, _, _)] (Za rfl (Za rfl (Za rfl (Zd _)))) ?_
 refine Zh (hK6 _ _ ?_)
 refine Yf (Zsa (ts := [2, 3, 4]) (vs := [_, _, _]) rfl rfl rfl ?_)
 refine ⟨a, ?_, ?_, g⟩
 ·rw [scanF, h0]; rfl
 ·rw [scanF, h0]; exact hT.ht
end Go.Rk
namespace Go.Rk
open Go Go.RowKit
set_option linter.unusedVariables false
theorem stext_law (a b : Nd) (va vb : Value) (D D' : Nat → Prop) (w : World) (hL : Laid w) (hb3 : 6 ≤ w.heap.size) (hT : TabP w) (hka : Kd w D a.kids va) (hkb : Kd w D' b.kids vb) (oka : okNd a) (okb : okNd b) (hwa : weight a ≤ 1048576) (hwb : weight b ≤ 1048576) : Ret PP Xhb #[ndV a va, ndV b vb] w fun r w' => r = .bool true ∧ G w w' := by
 have g := G.refl w
 have hca := Nat.le_trans (Qba a) hwa
 have hcb := Nat.le_trans (Qba b) hwb
 have f1 : ∀ {x y : Bool}, (x || y) = false → x = false := fun {x y} h => (Bool.or_eq_false_iff.1 h).1
 have f2 : ∀ {x y : Bool}, (x || y) = false → y = false := fun {x y} h => (Bool.or_eq_false_iff.1 h).2
 have hcc : ∀ {t : Nd}, decide ((150 : Int) < (count t : Nat)) = false → count t ≤ 150 := fun h => by simp only [decide_eq_false_iff_not] at h; omega
 refine Ym (m := 56) Znb rfl rfl [(0, True, _), (1, True, _)] (Za rfl (Za rfl (Zd _))) ?_
 refine Zg fun K1 hK1 => ?_
 refine Zf [1, 1, 3] ?_
 refine Wd rfl (Zb rfl) rfl ?_
 intro b2 w2 N2
 have l2 := N2.ge g
 have g := g.trans (N2.g)
 have B2 := N2.blk
 refine Wd rfl (Zb rfl) rfl ?_
 intro b3 w3 N3
 have x3_2 := N3.ne B2
 have l3 := N3.ge g
 have g := g.trans (N3.g)
 replace B2 := B2.grow (N3.g)
 have B3 := N3.blk
 refine Zc rfl (fun _ => Ze Zl) ?_
 refine Zj [(2, _, _), (3, _, _), (4, _, _)] (Za rfl (Za rfl (Za rfl (Zd _)))) ?_
 refine Zh (hK1 _ _ ?_)
 refine Zg fun K2 hK2 => ?_
 refine Zg fun K3 hK3 => ?_
 refine Zf [1, 3] ?_
 refine Yd rfl (Zu go_l03_awake Yl (Zn) rfl) (awake03_ok _ (hL.grow g) (by have := g.size; omega) (hT.grow g)) ?_
 rintro v10 w10 ⟨rfl, g10⟩
 refine ⟨fun _ => g10, ?_⟩
 have g := g.trans (g10)
 replace B2 := B2.grow (g10)
 replace B3 := B3.grow (g10)
 refine Zc rfl (fun _ => Ub (Zb rfl)) ?_
 refine Zj [(2, _, _), (3, _, _), (4, _, _), (11, _, _)] (Za rfl (Za rfl (Za rfl (Za rfl (Zd _))))) ?_
 refine Zh (hK3 _ _ ?_)
 refine Zz (Zb rfl) (fun h1 => ?_) (fun h1 => ?_)
 ·exfalso; cases h1
  done
 (try simp only [bsimp] at h1)
 refine Yq (hK2 _ _ ?_)
 refine Yi [(2, _, _), (3, _, _), (4, _, _)] (Za rfl (Za rfl (Za rfl (Zd _)))) ?_
 refine Zg fun K4 hK4 => ?_
 refine Zg fun K5 hK5 => ?_
 refine Zf [0, 1, 3, 3, 0, 1, 3, 3, 3, 0, 1, 3, 3, 3, 0, 1, 3, 3] ?_
 refine Ya rfl (Yb Zr (Zb rfl) rfl (fun _ => B2.row)) ?_
 refine Xe rfl (Zu Ula Yl (Zk (Zb rfl) (Zn)) rfl) (rcount_ok a va D _ (hka.grow g) (by omega)) (fun w13 g13 => ?_)
 have g := g.trans (g13)
 replace B2 := B2.grow (g13)
 replace B3 := B3.grow (g13)
 refine Zc rfl (fun _ => Js (Zb rfl) Zl) ?_
 refine Zc rfl (fun _ => Zi (Zb rfl)) ?_
 refine Yr rfl rfl rfl (Yb Zr (Zb rfl) rfl (fun _ => B3.row)) ?_
 refine Xb rfl rfl rfl (fun _ => (Zu Ula Yl (Zk (Zy rfl id) (Zn)) rfl)) (fun hc => rcount_ok b vb D' _ (hkb.grow g) (by omega)) (fun w17 g17 => ?_)
 have g := g.trans (g17)
 replace B2 := B2.grow (g17)
 replace B3 := B3.grow (g17)
 refine Zs rfl rfl rfl (fun _ => Js (Zy rfl id) Zl) ?_
 refine Zc rfl (fun _ => Yz (Zb rfl) (Zy rfl id)) ?_
 refine Zc rfl (fun _ => Zi (Zb rfl)) ?_
 refine Yr rfl rfl rfl (Yb Zr (Zb rfl) rfl (fun _ => B2.row)) ?_
 refine Xb rfl rfl rfl (fun _ => (Zu Xjb Yl (Zk (Zy rfl id) (Zn)) rfl)) (fun hc => Ulb a va D _ (hka.grow g) (by have := hcc (f1 hc.2); omega)) (fun w22 g22 => ?_)
 have g := g.trans (g22)
 replace B2 := B2.grow (g22)
 replace B3 := B3.grow (g22)
 refine Zs rfl rfl rfl (fun _ => Ub (Zy rfl id)) ?_
 refine Zc rfl (fun _ => Yz (Zb rfl) (Zy rfl id)) ?_
 refine Zc rfl (fun _ => Zi (Zb rfl)) ?_
 refine Yr rfl rfl rfl (Yb Zr (Zb rfl) rfl (fun _ => B3.row)) ?_
 refine Xb rfl rfl rfl (fun _ => (Zu Xjb Yl (Zk (Zy rfl id) (Zn)) rfl)) (fun hc => Ulb b vb D' _ (hkb.grow g) (by have := hcc (f2 (f1 hc.2)); omega)) (fun w27 g27 => ?_)
 have g := g.trans (g27)
 replace B2 := B2.grow (g27)
 replace B3 := B3.grow (g27)
 refine Zs rfl rfl rfl (fun _ => Ub (Zy rfl id)) ?_
 refine Zc rfl (fun _ => Yz (Zb rfl) (Zy rfl id)) ?_
 refine Zj [(2, _, _), (3, _, _), (4, _, _), (29, _, _)] (Za rfl (Za rfl (Za rfl (Za rfl (Zd _))))) ?_
 refine Zh (hK5 _ _ ?_)
 refine Zz (Zb rfl) (fun h2 => ?_) (fun h2 => ?_)
 ·(try simp only [bsimp] at h2)
  refine Zg fun K6 hK6 => ?_
  refine Zf [3] ?_
  refine Zc rfl (fun _ => Ze Zl) ?_
  refine Zj [(2, _, _), (3, _, _), (4, _, _)] (Za rfl (Za rfl (Za rfl (Zd _)))) ?_
  refine Zh (hK6 _ _ ?_)
  refine Yf (Yj rfl rfl ?_)
  refine ⟨rfl, g⟩
 have q1 := hcc (f1 (f1 (f1 h2)))
 have q2 := hcc (f2 (f1 (f1 h2)))
 have va1 : validB a = true := by simpa using f2 (f1 h2)
 have vb1 : validB b = true := by simpa using f2 h2
 refine Yq (hK4 _ _ ?_)
 refine Yi [(2, _, _), (3, _, _), (4, _, _)] (Za rfl (Za rfl (Za rfl (Zd _)))) ?_
 refine Zg fun K7 hK7 => ?_
 skip
 refine Vm [0, 1, 0, 1, 3, 3] [true, true, false, true, true, true] [0, 1, 0, 7, 15, 31] mix (by kernel_rfl) ?_
 have g := g.trans (G.drew _)
 replace B2 := B2.grow (G.drew _)
 replace B3 := B3.grow (G.drew _)
 have C2 := B2
 have C3 := B3
 refine Ya rfl (Yb Zr (Zb rfl) rfl (fun _ => B2.row)) ?_
 refine Xe rfl (Zu Yra Yl (Zk (Zb rfl) (Zn)) rfl) (Yqc a va D _ (hL.grow g) (by have := g.size; omega) (hT.grow g) (hka.grow g) (by omega) oka (Uob (by omega) hwa)) (fun w31 g31 => ?_)
 have g := g.trans (g31)
 replace B2 := B2.grow (g31)
 replace B3 := B3.grow (g31)
 refine sr_rd0 rfl (Yb Zr (Zb rfl) rfl (fun _ => C3.row)) ?_
 refine Xe rfl (Zu Yra Yl (Zk (Zb rfl) (Zn)) rfl) (Yqc b vb D' _ (hL.grow g) (by have := g.size; omega) (hT.grow g) (hkb.grow g) (by omega) okb (Uob (by omega) hwb)) (fun w33 g33 => ?_)
 have g := g.trans (g33)
 replace B2 := B2.grow (g33)
 replace B3 := B3.grow (g33)
 refine Zc rfl (fun _ => Ze (Zb rfl)) ?_
 refine Zc rfl (fun _ => Ze (Zb rfl)) ?_
 refine Zj [(2, _, _), (3, _, _), (4, _, _), (5, _, _), (6, _, _)] (Za rfl (Za rfl (Za rfl (Za rfl (Za rfl (Zd _)))))) ?_
 refine Zh (hK7 _ _ ?_)
 refine Zg fun K8 hK8 => ?_
 refine Zf [3, 1, 3, 3, 3, 3, 3, 3, 3] ?_
 refine Zc rfl (fun _ => Zi (Zb rfl)) ?_
 refine Yd rfl (Zu go_r02_Scan Yl (Zk (Zb rfl) (Zn)) rfl) (rscan_ok (printX a) _) ?_
 rintro v36 w36 ⟨l36, rfl, _, g36⟩
 refine ⟨fun _ => g36, ?_⟩
 have g := g.trans g36
 replace B2 := B2.grow (g36)
 replace B3 := B3.grow (g36)
 refine Zc rfl (fun _ => Zi (Zb rfl)) ?_
 refine Zc rfl (fun _ => Wu (Zb rfl) rfl) ?_
 refine Zc rfl (fun _ => Wu (Zb rfl) rfl) ?_
 refine Zc rfl (fun _ => Wu (Zb rfl) rfl) ?_
 refine Zc rfl (fun _ => Ze (Zb rfl)) ?_
 refine Zc rfl (fun _ => Ze (Zb rfl)) ?_
 refine Zc rfl (fun _ => Ze (Zb rfl)) ?_
 refine Zj [(2, _, _), (3, _, _), (4, _, _), (5, _, _), (6, _, _), (9, _, _)] (Za rfl (Za rfl (Za rfl (Za rfl (Za rfl (Za rfl (Zd _))))))) ?_
 refine Zh (hK8 _ _ ?_)
 refine Zg fun K9 hK9 => ?_
 refine Zf [3, 3, 3, 0, 0, 1, 3, 3, 3, 3, 3, 3, 3, 3, 3, 3, 3] ?_
 refine Zc rfl (fun _ => Zi (Zb rfl)) ?_
 refine Zc rfl (fun _ => Zi (Zb rfl)) ?_
 refine Zc rfl (fun _ => Yh (Zb rfl) (Zb rfl)) ?_
 refine Ya rfl (Yb Zr (Zb rfl) rfl (fun _ => B2.row)) ?_
 refine Ya rfl (Yb Zr (Zb rfl) rfl (fun _ => B3.row)) ?_
 refine Xe rfl (Zu Ysa Yl (Zk (Zb rfl) (Zk (Zb rfl) (Zn))) rfl) (sequal_ok a va D b vb D' _ (hka.grow g) (hkb.grow g) (by omega)) (fun w45 g45 => ?_)
 have g := g.trans (g45)
 replace B2 := B2.grow (g45)
 replace B3 := B3.grow (g45)
 refine Zc rfl (fun _ => rd_beq und_bool (Zb rfl) (Zb rfl)) ?_
 refine Zc rfl (fun _ => Zi (Zb rfl)) ?_
 refine Zs rfl rfl rfl (fun _ => Zi (Zb rfl)) ?_
 refine Zs rfl rfl rfl (fun _ => Yg (Zy rfl id) Zl) ?_
 refine Zs rfl rfl rfl (fun _ => Zi (Zy rfl id)) ?_
 refine Zs rfl rfl rfl (fun _ => Zi (Zb rfl)) ?_
 refine Zs rfl rfl rfl (fun _ => Wz Yv (Zy rfl id)) ?_
 refine Zs rfl rfl rfl (fun _ => Js (Zy rfl id) Zl) ?_
 refine Zs rfl rfl rfl (fun _ => Yz (Zy rfl id) (Zy rfl id)) ?_
 refine Zc rfl (fun _ => Ye (Zb rfl) (Zy rfl id)) ?_
 refine Zc rfl (fun _ => Ze (Zb rfl)) ?_
 refine Zj [(4, _, _)] (Za rfl (Zd _)) ?_
 refine Zh (hK9 _ _ ?_)
 refine Yf (Yj rfl rfl ?_)
 refine ⟨congrArg Value.bool ?_, g⟩
 rw [print_eq va1 vb1 oka okb, beq_self_eq_true, Bool.true_and]
 have q := scan_print va1 oka
 simp only [Bool.or_eq_true, decide_eq_true_eq] at q ⊢
 omega
end Go.Rk
