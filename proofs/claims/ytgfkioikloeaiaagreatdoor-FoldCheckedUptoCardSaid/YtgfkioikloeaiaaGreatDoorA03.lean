/- Merged texts of one road: SynC, SynD, SynE, SynF, SynG, SynH, Max, SynI, SynJ, Stp, CkA, CkB, CkC, Skl, TypL, TypH. Conditions: each text's own. -/
import Derived.Test.YtgfkioikloeaiaaGreatDoorA02
import Derived.Test.YtgfkioikloeaiaaGreatDoorA01
set_option linter.unusedSimpArgs false
set_option linter.unusedVariables false
namespace Go.Rk
open Go.Proofs
open Go Go.RowKit
theorem Vka {w : World} {D : Nat → Prop} {t : Nd} {p : Option Addr} {c : Nat} (hk : Kd w D t.kids (.slice p t.kids.length c)) (i : Nat) : ∃ p' c', i < t.kids.length → p = some ⟨pb p, po p, none⟩ ∧ RowAt w (pb p) (po p + i * 9) (ndCells (Zd t i) (.slice p' (Zd t i).kids.length c')) ∧ Kd w D (Zd t i).kids (.slice p' (Zd t i).kids.length c') := by
  by_cases h : i < t.kids.length
  · obtain ⟨h1, p', c', h2, h3⟩ := Xs hk h
    exact ⟨p', c', fun _ => ⟨h1, h2, h3⟩⟩
  · exact ⟨none, 0, fun h' => absurd h' h⟩
def lenK (t : Nd) (n : Int) : Bool := decide ((t.kids.length : Int) = n)
def fileVarB (k : Nd) : Bool := decide (k.kind = 6) && (!lenK k 2 || !decide ((Zd k 1).kind = 9))
def formB (t : Nd) : Bool :=
  bif decide (t.kind = 1) then !(t.kids.any fileVarB) && everyB t (memK [2, 6, 4])
  else bif anyK [2, 5] t.kind then everyB t (memK [3])
  else bif decide (t.kind = 3) then kidsB t [typK]
  else bif decide (t.kind = 4) then kidsB t [memK [5], fun k => typK k || memK [9] k, memK [10]]
  else bif decide (t.kind = 6) then kidsB t [typK, fun k => expK k || memK [9] k]
  else bif decide (t.kind = 10) then everyB t stK
  else bif anyK [11, 17, 21, 28, 31, 33, 35, 36, 37] t.kind then kidsB t [expK]
  else bif anyK [12, 16, 29, 32] t.kind then kidsB t [expK, expK]
  else bif decide (t.kind = 13) then kidsB t [memK [30, 33]]
  else bif anyK [14, 15] t.kind then kidsB t [memK [30]]
  else bif decide (t.kind = 18) then kidsB t [expK, memK [10], memK [10, 18, 9]]
  else bif decide (t.kind = 19) then kidsB t [fun k => expK k || memK [9] k, memK [10]]
  else bif decide (t.kind = 20) then lenK t 0 || kidsB t [expK]
  else bif decide (t.kind = 22) then everyB t (memK [23])
  else bif decide (t.kind = 23) then (lenK t 2 && commB (Zd t 0)) && memK [10] (Zd t 1).kind
  else bif decide (t.kind = 30) then decide ((0 : Int) < t.kids.length) && everyB t expK
  else bif decide (t.kind = 24) then lenK t 0 && decide (0 ≤ t.num)
  else bif decide (t.kind = 25) then lenK t 0 && (decide (t.num = 0) || decide (t.num = 1))
  else bif anyK [27, 34, 26, 9, 7, 8] t.kind then lenK t 0
  else bif decide (t.kind = 38) then kidsB t [memK [10]]
  else false
set_option maxHeartbeats 2000000 in
theorem Wsf (t : Nd) (p : Option Addr) (c : Nat) (D : Nat → Prop) (w : World) (hk : Kd w D t.kids (.slice p t.kids.length c)) (hc : t.kids.length ≤ 1000000) (hcc : ∀ i, (Zd t i).kids.length ≤ 1000000) : Ret PP Vpc #[ndV t (.slice p t.kids.length c)] w fun v w' => v = .bool (formB t) ∧ G w w' := by
   have g := G.refl w
   have hc0 := hc
   refine Yp (m := 221) Zcc J J [(0, True, _)] (Za J (Zj _)) ?_
   refine Ze (Zg (Wq J (Zk J) J ?_))
   intro b1 w1 N1
   have l1 := N1.ge g
   have g := g.trans N1.g
   have E := (Wo _).new N1
   refine Zp J (Zb (kq (Ze (Zg (Yb _ J Ul Yxa (pqc J pq0) J J ?_)))))
   intro b7 w7 N7
   have l7 := N7.ge g
   have g := g.trans N7.g
   replace E := E.new N7
   refine Ya J (Zo Qd Yo (aqc J aq0) J) (Xba [10] _ _ _ _ E.g0.row (by decide)) ?_
   rintro v8 w8 ⟨hA8, g8⟩
   have hq8 := hA8
   obtain ⟨f8, fs8, cs8, rfl, hgo8, hf8⟩ := hq8
   refine ⟨fun _ => g8, ?_⟩
   have g := g.trans g8
   replace E := E.grow g8
   have gm8 := G.refl w8
   refine Yb _ J Ul Yxa (pqc J pq0) J J ?_
   intro b9 w9 N9
   have l9 := N9.ge g
   have l9_gm8 := N9.ge gm8
   have g := g.trans N9.g
   have gm8 := gm8.trans (N9.g)
   replace E := E.new N9
   refine Ya J (Zo Qd Yo (aqc J aq0) J) (Xba [3] _ _ _ _ E.g0.row (by decide)) ?_
   rintro v10 w10 ⟨hA10, g10⟩
   have hq10 := hA10
   obtain ⟨f10, fs10, cs10, rfl, hgo10, hf10⟩ := hq10
   refine ⟨fun _ => g10, ?_⟩
   have g := g.trans g10
   have gm8 := gm8.trans (g10)
   replace E := E.grow g10
   have gm10 := G.refl w10
   refine Zp J (Zp J (Zb (kq (Ze (Ze (Zg (Zx Yd J (Yg Zu J (E.g2.at_ J) (Zb (kq (Yu (Ze (Zg (Xt J J (Zp J (Zb (kq (Yv J (fun h1 => ?_) (fun h1 => ?_)))))))))))))))))))
   · (try simp only [Xq] at h1)
     refine Ze (Ze (Zg (Zx Zi J (Yg Zh J (E.g2.at_ J) (Qu Zf J (Zt J (Zb (kq (Yu (Qq (fun (i : Nat) u1 => (i ≤ t.kids.length ∧ ∀ j, (h : j < t.kids.length) → j < i → fileVarB t.kids[j] = false) ∧ G w10 u1) [(1, True, _), (16, True, _), (17, True, _)] (fun (i : Nat) => [(18, True, .int .i64 i)]) (fun (i : Nat) => t.kids.length - i) (0) ⟨⟨Nat.zero_le _, fun j _ hj => absurd hj (Nat.not_lt_zero j)⟩, G.refl _⟩ (Za J (Za J (Za J (Za J (Zj _))))) ?_))))))))))
     rintro i u1 ⟨hI1, gl1⟩
     have g := g.trans gl1
     have gm8 := gm8.trans gl1
     have gm10 := gm10.trans gl1
     replace E := E.grow gl1
     refine Ze (Zg (Zfa J J (Zb (kq (Ze (Yv J (fun h2 => ?_) (fun h2 => ?_)))))))
     · replace h2 : i < t.kids.length := by simp only [decide_eq_true_eq] at h2; omega
       obtain ⟨hpe, p2, c2, hcell, hkid⟩ := Xs hk h2
       have hcci := hcc i
       refine Yc (kq (Ze (Yu (Ze (Zg (Ve Zf J J (by omega) hpe (Yk Zc J J (hcell.grow g) (Yh J Zm J ?_))))))))
       intro b6 w6 N6
       have l6 := N6.ge g
       have l6_gm8 := N6.ge gm8
       have l6_gm10 := N6.ge gm10
       have l6_gl1 := N6.ge gl1
       have g := g.trans N6.g
       have gm8 := gm8.trans (N6.g)
       have gm10 := gm10.trans (N6.g)
       have gl1 := gl1.trans (N6.g)
       replace E := E.new N6
       refine Yt Zl J J J E.g0 ?_
       intro wS1 hgS1 _ BS
       replace E := E.s0 hgS1 BS
       have g := Zw g hgS1 (by omega)
       first | replace gm8 := Zw gm8 hgS1 (by omega) | clear gm8 | skip
       first | replace gm10 := Zw gm10 hgS1 (by omega) | clear gm10 | skip
       first | replace gl1 := Zw gl1 hgS1 (by omega) | clear gl1 | skip
       refine Zb (kq (Ze (Zg (Zx Yd J (Yg Zu J (E.g0.at_ J) (Xt J J (Zt J (Zn J J J (fun _ => Zv Zi (Zk J)) (Yj J J J (Ye Zh (Zq J id) (fun _ => E.g0.at_ J)) (Zn J J J (fun _ => Zea Zf (Zq J id)) (Zn J J J (fun _ => Wba (Zq J id) Xy) (Zn J J J (fun _ => Yl (Zq J id)) (Zn J J J (fun _ => Zv Zi (Zk J)) (Yj J J J (Ye Zh (Zq J id) (fun _ => E.g0.at_ J)) (Zn J J J (fun _ => Wj Zf (Zq J id) Xy (fun hc => by have := hc.2; simp only [Bool.not_eq_false', decide_eq_true_eq] at this; omega) (fun hc => (Xs hkid (i := 1) (by have := hc.2; simp only [Bool.not_eq_false', decide_eq_true_eq] at this; omega)).1)) (Zn J J J (fun _ => Zv Yd (Zq J id)) (?_)))))))))))))))))
       refine Yj J J J (Ye Zu (Zq J id) (fun hc => by
 obtain ⟨_, p', c', hcell', _⟩ := Xs hkid (i := 1) (by have := hc.2; simp only [Bool.not_eq_false', decide_eq_true_eq] at this; omega)
 exact (hcell'.grow g) 0 _ rfl)) (Zn rfl rfl rfl (fun _ => Wba (Zq rfl id) Xy) (Zn rfl rfl rfl (fun _ => Xh (Zq rfl id) (Zq rfl id)) (Yi rfl (fun _ => Zz (Zk rfl) (Zq rfl id)) (Zb (kq (Yv rfl (fun h3 => ?_) (fun h3 => ?_)))))))
       · replace h3 : (fileVarB (Zd t i)) = true := h3
         have hany : t.kids.any fileVarB = true := List.any_eq_true.2 ⟨_, List.getElem_mem h2, by rw [← Wm h2]; exact h3⟩
         refine Ze (Zg (Zp J (Zb (kq (Zr (Yx J J ?_))))))
         refine ⟨Ygg ?_, g⟩
         unfold formB; rw [h1, hany]; rfl
       replace h3 : (fileVarB (Zd t i)) = false := h3
       refine Yc (kq (Zg (Qv J J (by omega) (Zt J (Wh [(18, _, _), (1, _, _), (16, _, _), (17, _, _)] (Za J (Za J (Za J (Za J (Zj _))))) (Zb (fun a ha => ?_)))))))
       refine ⟨i + 1, ha, ⟨⟨h2, fun j h hj => ?_⟩, gl1⟩, by omega⟩
       by_cases e : j = i
       · subst e; rw [← Wm h2]; exact h3
       · exact hI1.2 j h (by omega)
     replace h2 : i = t.kids.length := by simp only [decide_eq_false_iff_not] at h2; omega
     have hnone : t.kids.any fileVarB = false := by
       rw [List.any_eq_false]; intro x hx
       obtain ⟨j, hj, rfl⟩ := List.getElem_of_mem hx
       rw [hI1.2 j hj (by omega)]; simp
     refine Vq J (kq (Ze (Wr [0, 1, 1, 1, 3] [true, true, true, true, true] [0, 0, 2, 7, 15] mix (by kernel_rfl) ?_)))
     have g := gdr g
     have gm8 := gm8.trans (G.drew _)
     have gm10 := gm10.trans (G.drew _)
     have gl1 := gl1.trans (G.drew _)
     replace E := E.dr
     refine Yk Zc J J E.g2.row (Yb _ J Ul Yxa (pqc J (pqc J (pqc J pq0))) J J ?_)
     intro b41 w41 N41
     have l41 := N41.ge g
     have l41_gm8 := N41.ge gm8
     have l41_gm10 := N41.ge gm10
     have l41_gl1 := N41.ge gl1
     have g := g.trans N41.g
     replace E := E.new N41
     refine Ya J (Zo Qd Yo (aqc J aq0) J) (Xba [2, 6, 4] _ _ _ _ E.g0.row (by decide)) ?_
     rintro v42 w42 ⟨hA42, g42⟩
     have hq42 := hA42
     obtain ⟨f42, fs42, cs42, rfl, hgo42, hf42⟩ := hq42
     refine ⟨fun _ => g42, ?_⟩
     have g := g.trans g42
     replace E := E.grow g42
     have gm42 := G.refl w42
     refine Xk J (Zo Yma Yo (aqc J (aqc J (aqc J aq0))) J) (Wpb t _ _ D (memK [2, 6, 4]) _ _ (hk.grow g) (hA42.grow gm42) hc) (fun w43 g43 => ?_)
     have g := g.trans g43
     replace E := E.grow g43
     refine Zp J (Zb (kq (Zr (Yx J J ?_))))
     refine ⟨Ygg ?_, g⟩
     unfold formB; rw [h1, hnone]; rfl
   refine Ze (Ze (Zg (Xt J J (Zp J (Zb (kq (?_)))))))
   refine' Xi [(1, _, _), (2, _, _), (3, _, _), (4, _, _), (12, _, _)] (Za J (Za J (Za J (Za J (Za J (Za J (Zj _))))))) J (fun hb4 => ?y4) (kq ?n4)
   case y4 =>
    refine Zg (Xt J J (Zp J (Wh [(44, _, _), (1, _, _), (2, _, _), (3, _, _), (4, _, _), (12, _, _)] (Za J (Za J (Za J (Za J (Za J (Za J (Zj _))))))) (?_))))
    exact Zb knr
   case n4 =>
    refine Yv J (fun h5 => ?_) (fun h5 => ?_)
    · (try simp only [Xq] at h5)
      refine Ze (Zg (Yk Zc J J E.g2.row (Zt J (Xk J (Zo Yma Yo (aqc J (aqc J (aqc J aq0))) J) (Wpb t _ _ D (memK [3]) _ _ (hk.grow g) (hA10.grow gm10) hc) (fun w49 g49 => ?_)))))
      have g := g.trans g49
      replace E := E.grow g49
      refine Zp J (Zb (kq (Zr (Yx J J ?_))))
      refine ⟨Ygg ?_, g⟩
      unfold formB; simp only [anyK, h1, h5, cond_true, cond_false] <;> rfl
    refine Ze (Zg (Xt J J (Zp J (Zb (kq (Yv J (fun h6 => ?_) (fun h6 => ?_)))))))
    · (try simp only [Xq] at h6)
      refine Ze (Zg (Yk Zc J J E.g2.row (Yb _ J Wu Vu (pqc J pq0) J J ?_)))
      intro b53 w53 N53
      have l53 := N53.ge g
      have l53_gm8 := N53.ge gm8
      have l53_gm10 := N53.ge gm10
      have g := g.trans N53.g
      replace E := E.new N53
      refine Xk J (Zo Uu Yo (aqc J (aqc J aq0)) J) (Xla t _ _ D [typK] _ _ _ _ _ (hk.grow g) J E.g0.row (fun i h => by match i, h with | 0, _ => exact Wra Yna Wob _) hc) (fun w54 g54 => ?_)
      have g := g.trans g54
      replace E := E.grow g54
      refine Zp J (Zb (kq (Zr (Yx J J ?_))))
      refine ⟨Ygg ?_, g⟩
      unfold formB; simp only [anyK, h1, h5, h6, cond_true, cond_false] <;> rfl
    refine Ze (Zg (Xt J J (Zp J (Zb (kq (Yv J (fun h7 => ?_) (fun h7 => ?_)))))))
    · (try simp only [Xq] at h7)
      refine Ze (Ud (rowR none) [0, 1, 1, 1, 1, 3, 1, 1, 3] [0, 0, 2, 0, 14, 0, 62, 127, 255] mix (by kernel_rfl) [0, 1, 2, 3, 4, 5, 6, 7, 8] J ?_)
      have g := gdr g
      have gm8 := gm8.trans (G.drew _)
      have gm10 := gm10.trans (G.drew _)
      replace E := E.dr
      refine Vk 0 J J (fun w1 hx => Xd Zc (Zk J) J (fun _ => (E.g2.keep hx (fun h => nomatch h)).row)) (Xc 5 J J (fun _ => Yl (Zk J)) (Xwa 1 3 J J ?_ ?_))
      · refine Xg (L' := [2, 3, 4, 6, 7, 8]) [0, 1, 1, 1, 1, 3, 1, 1, 3] rfl rfl rfl ?_
        refine Yb _ J Ul Yxa (pqc J pq0) J J ?_
        intro b58 w58 N58
        have l58 := N58.ge g
        have l58_gm8 := N58.ge gm8
        have l58_gm10 := N58.ge gm10
        have g := g.trans N58.g
        have gm8 := gm8.trans (N58.g)
        have gm10 := gm10.trans (N58.g)
        replace E := E.new N58
        refine Wa ((N58.g).only _) ?_
        refine Xwa 2 3 J J ?_ ?_
        · refine Xg (L' := [3, 4, 6, 7, 8]) [0, 1, 1, 1, 1, 3, 1, 1, 3] rfl rfl rfl ?_
          refine Ya J (Zo Qd Yo (aqc J aq0) J) (Xba [5] _ _ _ _ E.g0.row (by decide)) ?_
          rintro v59 w59 ⟨hA59, g59⟩
          have hq59 := hA59
          obtain ⟨f59, fs59, cs59, rfl, hgo59, hf59⟩ := hq59
          refine ⟨fun _ => g59, ?_⟩
          have g := g.trans g59
          have gm8 := gm8.trans (g59)
          have gm10 := gm10.trans (g59)
          replace E := E.grow g59
          have gm59 := G.refl w59
          refine Wa ((g59).only _) ?_
          refine Xo 3 J J ?_
          refine Xg (L' := [4, 6, 7, 8]) [0, 1, 1, 1, 1, 3, 1, 1, 3] J J J ?_
          refine Yb _ J Ul Yxa (pqc J pq0) J J ?_
          intro b60 w60 N60
          have l60 := N60.ge g
          have l60_gm8 := N60.ge gm8
          have l60_gm10 := N60.ge gm10
          have l60_gm59 := N60.ge gm59
          have g := g.trans N60.g
          have gm8 := gm8.trans (N60.g)
          have gm10 := gm10.trans (N60.g)
          have gm59 := gm59.trans (N60.g)
          replace E := E.new N60
          refine Wa ((N60.g).only _) ?_
          refine Xo 4 J J ?_
          refine Xg (L' := [6, 7, 8]) [0, 1, 1, 1, 1, 3, 1, 1, 3] J J J ?_
          refine Ya J (Zo Zza Yo (aqc J (aqc J aq0)) J) (Zkb typK [9] _ _ _ _ _ (Wra Yna Wob _) E.g0.row (by decide)) ?_
          rintro v61 w61 ⟨hA61, g61⟩
          have hq61 := hA61
          obtain ⟨f61, fs61, cs61, rfl, hgo61, hf61⟩ := hq61
          refine ⟨fun _ => g61, ?_⟩
          have g := g.trans g61
          have gm8 := gm8.trans (g61)
          have gm10 := gm10.trans (g61)
          have gm59 := gm59.trans (g61)
          replace E := E.grow g61
          have gm61 := G.refl w61
          refine Wa ((g61).only _) ?_
          refine Xo 6 J J ?_
          refine Xg (L' := [7, 8]) [0, 1, 1, 1, 1, 3, 1, 1, 3] J J J ?_
          refine Yb _ J Wu Vu (pqc J (pqc J (pqc J pq0))) J J ?_
          intro b63 w63 N63
          have l63 := N63.ge g
          have l63_gm8 := N63.ge gm8
          have l63_gm10 := N63.ge gm10
          have l63_gm59 := N63.ge gm59
          have l63_gm61 := N63.ge gm61
          have g := g.trans N63.g
          have gm8 := gm8.trans (N63.g)
          have gm59 := gm59.trans (N63.g)
          have gm61 := gm61.trans (N63.g)
          replace E := E.new N63
          refine Wa ((N63.g).only _) ?_
          refine Xo 7 J J ?_
          refine Xg (L' := [8]) [0, 1, 1, 1, 1, 3, 1, 1, 3] J J J ?_
          refine Xk J (Zo Uu Yo (aqc J (aqc J aq0)) J) (Xla t _ _ D [memK [5], fun k => typK k || memK [9] k, memK [10]] _ _ _ _ _ (hk.grow g) J E.g0.row (fun i h => by match i, h with | 0, _ => exact hA59.grow gm59 | 1, _ => exact hA61.grow gm61 | 2, _ => exact hA8.grow gm8) hc) (fun w64 g64 => ?_)
          have g := g.trans g64
          replace E := E.grow g64
          refine Wa ((g64).only _) ?_
          refine Xc 8 J J (fun _ => Wy (Zk J)) (Uq [(2, _, _)] (Za J (Zj _)) (Up (kq (Zr (Yx J J ?_)))))
          refine ⟨Ygg ?_, g⟩
          unfold formB; simp only [anyK, h1, h5, h6, h7, cond_true, cond_false] <;> rfl
        · refine Xg (L' := [2, 4, 6, 7, 8]) [0, 1, 1, 1, 1, 3, 1, 1, 3] rfl rfl rfl ?_
          refine Yb _ J Ul Yxa (pqc J pq0) J J ?_
          intro b60 w60 N60
          have l60 := N60.ge g
          have l60_gm8 := N60.ge gm8
          have l60_gm10 := N60.ge gm10
          have g := g.trans N60.g
          have gm8 := gm8.trans (N60.g)
          have gm10 := gm10.trans (N60.g)
          replace E := E.new N60
          refine Wa ((N60.g).only _) ?_
          refine Xo 2 J J ?_
          refine Xg (L' := [4, 6, 7, 8]) [0, 1, 1, 1, 1, 3, 1, 1, 3] J J J ?_
          refine Ya J (Zo Qd Yo (aqc J aq0) J) (Xba [5] _ _ _ _ E.g1.row (by decide)) ?_
          rintro v59 w59 ⟨hA59, g59⟩
          have hq59 := hA59
          obtain ⟨f59, fs59, cs59, rfl, hgo59, hf59⟩ := hq59
          refine ⟨fun _ => g59, ?_⟩
          have g := g.trans g59
          have gm8 := gm8.trans (g59)
          have gm10 := gm10.trans (g59)
          replace E := E.grow g59
          have gm59 := G.refl w59
          refine Wa ((g59).only _) ?_
          refine Xo 4 J J ?_
          refine Xg (L' := [6, 7, 8]) [0, 1, 1, 1, 1, 3, 1, 1, 3] J J J ?_
          refine Ya J (Zo Zza Yo (aqc J (aqc J aq0)) J) (Zkb typK [9] _ _ _ _ _ (Wra Yna Wob _) E.g0.row (by decide)) ?_
          rintro v61 w61 ⟨hA61, g61⟩
          have hq61 := hA61
          obtain ⟨f61, fs61, cs61, rfl, hgo61, hf61⟩ := hq61
          refine ⟨fun _ => g61, ?_⟩
          have g := g.trans g61
          have gm8 := gm8.trans (g61)
          have gm10 := gm10.trans (g61)
          have gm59 := gm59.trans (g61)
          replace E := E.grow g61
          have gm61 := G.refl w61
          refine Wa ((g61).only _) ?_
          refine Xo 6 J J ?_
          refine Xg (L' := [7, 8]) [0, 1, 1, 1, 1, 3, 1, 1, 3] J J J ?_
          refine Yb _ J Wu Vu (pqc J (pqc J (pqc J pq0))) J J ?_
          intro b63 w63 N63
          have l63 := N63.ge g
          have l63_gm8 := N63.ge gm8
          have l63_gm10 := N63.ge gm10
          have l63_gm59 := N63.ge gm59
          have l63_gm61 := N63.ge gm61
          have g := g.trans N63.g
          have gm8 := gm8.trans (N63.g)
          have gm59 := gm59.trans (N63.g)
          have gm61 := gm61.trans (N63.g)
          replace E := E.new N63
          refine Wa ((N63.g).only _) ?_
          refine Xo 7 J J ?_
          refine Xg (L' := [8]) [0, 1, 1, 1, 1, 3, 1, 1, 3] J J J ?_
          refine Xk J (Zo Uu Yo (aqc J (aqc J aq0)) J) (Xla t _ _ D [memK [5], fun k => typK k || memK [9] k, memK [10]] _ _ _ _ _ (hk.grow g) J E.g0.row (fun i h => by match i, h with | 0, _ => exact hA59.grow gm59 | 1, _ => exact hA61.grow gm61 | 2, _ => exact hA8.grow gm8) hc) (fun w64 g64 => ?_)
          have g := g.trans g64
          replace E := E.grow g64
          refine Wa ((g64).only _) ?_
          refine Xc 8 J J (fun _ => Wy (Zk J)) (Uq [(2, _, _)] (Za J (Zj _)) (Up (kq (Zr (Yx J J ?_)))))
          refine ⟨Ygg ?_, g⟩
          unfold formB; simp only [anyK, h1, h5, h6, h7, cond_true, cond_false] <;> rfl
      · refine Xg (L' := [1, 2, 4, 6, 7, 8]) [0, 1, 1, 1, 1, 3, 1, 1, 3] rfl rfl rfl ?_
        refine Yb _ J Ul Yxa (pqc J pq0) J J ?_
        intro b60 w60 N60
        have l60 := N60.ge g
        have l60_gm8 := N60.ge gm8
        have l60_gm10 := N60.ge gm10
        have g := g.trans N60.g
        have gm8 := gm8.trans (N60.g)
        have gm10 := gm10.trans (N60.g)
        replace E := E.new N60
        refine Wa ((N60.g).only _) ?_
        refine Xo 1 J J ?_
        refine Xg (L' := [2, 4, 6, 7, 8]) [0, 1, 1, 1, 1, 3, 1, 1, 3] J J J ?_
        refine Yb _ J Ul Yxa (pqc J pq0) J J ?_
        intro b58 w58 N58
        have l58 := N58.ge g
        have l58_gm8 := N58.ge gm8
        have l58_gm10 := N58.ge gm10
        have g := g.trans N58.g
        have gm8 := gm8.trans (N58.g)
        have gm10 := gm10.trans (N58.g)
        replace E := E.new N58
        refine Wa ((N58.g).only _) ?_
        refine Xo 2 J J ?_
        refine Xg (L' := [4, 6, 7, 8]) [0, 1, 1, 1, 1, 3, 1, 1, 3] J J J ?_
        refine Ya J (Zo Qd Yo (aqc J aq0) J) (Xba [5] _ _ _ _ E.g0.row (by decide)) ?_
        rintro v59 w59 ⟨hA59, g59⟩
        have hq59 := hA59
        obtain ⟨f59, fs59, cs59, rfl, hgo59, hf59⟩ := hq59
        refine ⟨fun _ => g59, ?_⟩
        have g := g.trans g59
        have gm8 := gm8.trans (g59)
        have gm10 := gm10.trans (g59)
        replace E := E.grow g59
        have gm59 := G.refl w59
        refine Wa ((g59).only _) ?_
        refine Xo 4 J J ?_
        refine Xg (L' := [6, 7, 8]) [0, 1, 1, 1, 1, 3, 1, 1, 3] J J J ?_
        refine Ya J (Zo Zza Yo (aqc J (aqc J aq0)) J) (Zkb typK [9] _ _ _ _ _ (Wra Yna Wob _) E.g1.row (by decide)) ?_
        rintro v61 w61 ⟨hA61, g61⟩
        have hq61 := hA61
        obtain ⟨f61, fs61, cs61, rfl, hgo61, hf61⟩ := hq61
        refine ⟨fun _ => g61, ?_⟩
        have g := g.trans g61
        have gm8 := gm8.trans (g61)
        have gm10 := gm10.trans (g61)
        have gm59 := gm59.trans (g61)
        replace E := E.grow g61
        have gm61 := G.refl w61
        refine Wa ((g61).only _) ?_
        refine Xo 6 J J ?_
        refine Xg (L' := [7, 8]) [0, 1, 1, 1, 1, 3, 1, 1, 3] J J J ?_
        refine Yb _ J Wu Vu (pqc J (pqc J (pqc J pq0))) J J ?_
        intro b63 w63 N63
        have l63 := N63.ge g
        have l63_gm8 := N63.ge gm8
        have l63_gm10 := N63.ge gm10
        have l63_gm59 := N63.ge gm59
        have l63_gm61 := N63.ge gm61
        have g := g.trans N63.g
        have gm8 := gm8.trans (N63.g)
        have gm59 := gm59.trans (N63.g)
        have gm61 := gm61.trans (N63.g)
        replace E := E.new N63
        refine Wa ((N63.g).only _) ?_
        refine Xo 7 J J ?_
        refine Xg (L' := [8]) [0, 1, 1, 1, 1, 3, 1, 1, 3] J J J ?_
        refine Xk J (Zo Uu Yo (aqc J (aqc J aq0)) J) (Xla t _ _ D [memK [5], fun k => typK k || memK [9] k, memK [10]] _ _ _ _ _ (hk.grow g) J E.g0.row (fun i h => by match i, h with | 0, _ => exact hA59.grow gm59 | 1, _ => exact hA61.grow gm61 | 2, _ => exact hA8.grow gm8) hc) (fun w64 g64 => ?_)
        have g := g.trans g64
        replace E := E.grow g64
        refine Wa ((g64).only _) ?_
        refine Xc 8 J J (fun _ => Wy (Zk J)) (Uq [(2, _, _)] (Za J (Zj _)) (Up (kq (Zr (Yx J J ?_)))))
        refine ⟨Ygg ?_, g⟩
        unfold formB; simp only [anyK, h1, h5, h6, h7, cond_true, cond_false] <;> rfl
    refine Ze (Zg (Xt J J (Zp J (Zb (kq (Yv J (fun h8 => ?_) (fun h8 => ?_)))))))
    · (try simp only [Xq] at h8)
      refine Ze (Wr [0, 1, 1, 1, 1, 3] [true, true, true, true, true, true] [0, 0, 2, 6, 15, 31] mix (by kernel_rfl) ?_)
      have g := gdr g
      have gm8 := gm8.trans (G.drew _)
      have gm10 := gm10.trans (G.drew _)
      replace E := E.dr
      refine Yk Zc J J E.g2.row (Yb _ J Ul Yxa (pqc J pq0) J J ?_)
      intro b68 w68 N68
      have l68 := N68.ge g
      have l68_gm8 := N68.ge gm8
      have l68_gm10 := N68.ge gm10
      have g := g.trans N68.g
      have gm8 := gm8.trans (N68.g)
      have gm10 := gm10.trans (N68.g)
      replace E := E.new N68
      refine Ya J (Zo Zza Yo (aqc J (aqc J aq0)) J) (Zkb expK [9] _ _ _ _ _ (Wra Uy Zca _) E.g0.row (by decide)) ?_
      rintro v69 w69 ⟨hA69, g69⟩
      have hq69 := hA69
      obtain ⟨f69, fs69, cs69, rfl, hgo69, hf69⟩ := hq69
      refine ⟨fun _ => g69, ?_⟩
      have g := g.trans g69
      have gm8 := gm8.trans (g69)
      have gm10 := gm10.trans (g69)
      replace E := E.grow g69
      have gm69 := G.refl w69
      refine Yb _ J Wu Vu (pqc J (pqc J pq0)) J J ?_
      intro b70 w70 N70
      have l70 := N70.ge g
      have l70_gm8 := N70.ge gm8
      have l70_gm10 := N70.ge gm10
      have l70_gm69 := N70.ge gm69
      have g := g.trans N70.g
      have gm69 := gm69.trans (N70.g)
      replace E := E.new N70
      refine Xk J (Zo Uu Yo (aqc J (aqc J aq0)) J) (Xla t _ _ D [typK, fun k => expK k || memK [9] k] _ _ _ _ _ (hk.grow g) J E.g0.row (fun i h => by match i, h with | 0, _ => exact Wra Yna Wob _ | 1, _ => exact hA69.grow gm69) hc) (fun w71 g71 => ?_)
      have g := g.trans g71
      replace E := E.grow g71
      refine Zp J (Zb (kq (Zr (Yx J J ?_))))
      refine ⟨Ygg ?_, g⟩
      unfold formB; simp only [anyK, h1, h5, h6, h7, h8, cond_true, cond_false] <;> rfl
    refine Ze (Zg (Xt J J (Zp J (Zb (kq (Yv J (fun h9 => ?_) (fun h9 => ?_)))))))
    · (try simp only [Xq] at h9)
      refine Ze (Zg (Yk Zc J J E.g2.row (Xk J (Zo Yma Yo (aqc J (aqc J (aqc J aq0))) J) (Wpb t _ _ D stK _ _ (hk.grow g) (Wra Vub Xrd _) hc) (fun w75 g75 => ?_))))
      have g := g.trans g75
      replace E := E.grow g75
      refine Zp J (Zb (kq (Zr (Yx J J ?_))))
      refine ⟨Ygg ?_, g⟩
      unfold formB; simp only [anyK, h1, h5, h6, h7, h8, h9, cond_true, cond_false] <;> rfl
    refine Ze (Ze (Zg (Xt J J (Zp J (Zb (kq (?_)))))))
    refine' Xi [(1, _, _), (2, _, _), (3, _, _), (12, _, _)] (Za J (Za J (Za J (Za J (Za J (Zj _)))))) J (fun hb10 => ?y10) (kq ?n10)
    case y10 =>
     refine Ze (Zg (Xt J J (Zp J (Zb (kq (?_))))))
     refine' Xi [(1, _, _), (2, _, _), (3, _, _), (12, _, _)] (Za J (Za J (Za J (Za J (Za J (Zj _)))))) J (fun hb11 => ?y11) knr
     case y11 =>
      refine Ze (Zg (Xt J J (Zp J (Zb (kq (?_))))))
      refine' Xi [(1, _, _), (2, _, _), (3, _, _), (12, _, _)] (Za J (Za J (Za J (Za J (Za J (Zj _)))))) J (fun hb12 => ?y12) knr
      case y12 =>
       refine Ze (Zg (Xt J J (Zp J (Zb (kq (?_))))))
       refine' Xi [(1, _, _), (2, _, _), (3, _, _), (12, _, _)] (Za J (Za J (Za J (Za J (Za J (Zj _)))))) J (fun hb13 => ?y13) knr
       case y13 =>
        refine Ze (Zg (Xt J J (Zp J (Zb (kq (?_))))))
        refine' Xi [(1, _, _), (2, _, _), (3, _, _), (12, _, _)] (Za J (Za J (Za J (Za J (Za J (Zj _)))))) J (fun hb14 => ?y14) knr
        case y14 =>
         refine Ze (Zg (Xt J J (Zp J (Zb (kq (?_))))))
         refine' Xi [(1, _, _), (2, _, _), (3, _, _), (12, _, _)] (Za J (Za J (Za J (Za J (Za J (Zj _)))))) J (fun hb15 => ?y15) knr
         case y15 =>
          refine Ze (Zg (Xt J J (Zp J (Zb (kq (?_))))))
          refine' Xi [(1, _, _), (2, _, _), (3, _, _), (12, _, _)] (Za J (Za J (Za J (Za J (Za J (Zj _)))))) J (fun hb16 => ?y16) knr
          case y16 =>
           refine Ze (Zg (Xt J J (Zp J (Zb (kq (?_))))))
           refine' Xi [(1, _, _), (2, _, _), (3, _, _), (12, _, _)] (Za J (Za J (Za J (Za J (Za J (Zj _)))))) J (fun hb17 => ?y17) knr
           case y17 =>
            refine Zg (Xt J J (Zp J (Wh [(76, _, _), (1, _, _), (2, _, _), (3, _, _), (12, _, _)] (Za J (Za J (Za J (Za J (Za J (Zj _)))))) (?_))))
            exact Zb knr
    case n10 =>
     refine Yv J (fun h18 => ?_) (fun h18 => ?_)
     · (try simp only [Xq] at h18)
       refine Ze (Zg (Yk Zc J J E.g2.row (Yb _ J Wu Vu (pqc J pq0) J J ?_)))
       intro b87 w87 N87
       have l87 := N87.ge g
       have l87_gm8 := N87.ge gm8
       have l87_gm10 := N87.ge gm10
       have g := g.trans N87.g
       replace E := E.new N87
       refine Xk J (Zo Uu Yo (aqc J (aqc J aq0)) J) (Xla t _ _ D [expK] _ _ _ _ _ (hk.grow g) J E.g0.row (fun i h => by match i, h with | 0, _ => exact Wra Uy Zca _) hc) (fun w88 g88 => ?_)
       have g := g.trans g88
       replace E := E.grow g88
       refine Zp J (Zb (kq (Zr (Yx J J ?_))))
       refine ⟨Ygg ?_, g⟩
       unfold formB; simp only [anyK, h1, h5, h6, h7, h8, h9, h18, cond_true, cond_false] <;> rfl
     refine Ze (Ze (Zg (Xt J J (Zp J (Zb (kq (?_)))))))
     refine' Xi [(1, _, _), (2, _, _), (3, _, _), (12, _, _)] (Za J (Za J (Za J (Za J (Za J (Zj _)))))) J (fun hb19 => ?y19) (kq ?n19)
     case y19 =>
      refine Ze (Zg (Xt J J (Zp J (Zb (kq (?_))))))
      refine' Xi [(1, _, _), (2, _, _), (3, _, _), (12, _, _)] (Za J (Za J (Za J (Za J (Za J (Zj _)))))) J (fun hb20 => ?y20) knr
      case y20 =>
       refine Ze (Zg (Xt J J (Zp J (Zb (kq (?_))))))
       refine' Xi [(1, _, _), (2, _, _), (3, _, _), (12, _, _)] (Za J (Za J (Za J (Za J (Za J (Zj _)))))) J (fun hb21 => ?y21) knr
       case y21 =>
        refine Zg (Xt J J (Zp J (Wh [(89, _, _), (1, _, _), (2, _, _), (3, _, _), (12, _, _)] (Za J (Za J (Za J (Za J (Za J (Zj _)))))) (?_))))
        exact Zb knr
     case n19 =>
      refine Yv J (fun h22 => ?_) (fun h22 => ?_)
      · (try simp only [Xq] at h22)
        refine Ze (Zg (Yk Zc J J E.g2.row (Yb _ J Wu Vu (pqc J (pqc J pq0)) J J ?_)))
        intro b95 w95 N95
        have l95 := N95.ge g
        have l95_gm8 := N95.ge gm8
        have l95_gm10 := N95.ge gm10
        have g := g.trans N95.g
        replace E := E.new N95
        refine Xk J (Zo Uu Yo (aqc J (aqc J aq0)) J) (Xla t _ _ D [expK, expK] _ _ _ _ _ (hk.grow g) J E.g0.row (fun i h => by match i, h with | 0, _ => exact Wra Uy Zca _ | 1, _ => exact Wra Uy Zca _) hc) (fun w96 g96 => ?_)
        have g := g.trans g96
        replace E := E.grow g96
        refine Zp J (Zb (kq (Zr (Yx J J ?_))))
        refine ⟨Ygg ?_, g⟩
        unfold formB; simp only [anyK, h1, h5, h6, h7, h8, h9, h18, h22, cond_true, cond_false] <;> rfl
      refine Ze (Zg (Xt J J (Zp J (Zb (kq (Yv J (fun h23 => ?_) (fun h23 => ?_)))))))
      · (try simp only [Xq] at h23)
        refine Ze (Wr [0, 1, 1, 1, 1, 3] [true, true, true, true, true, true] [0, 0, 2, 6, 15, 31] mix (by kernel_rfl) ?_)
        have g := gdr g
        have gm8 := gm8.trans (G.drew _)
        have gm10 := gm10.trans (G.drew _)
        replace E := E.dr
        refine Yk Zc J J E.g2.row (Yb _ J Ul Yxa (pqc J (pqc J pq0)) J J ?_)
        intro b100 w100 N100
        have l100 := N100.ge g
        have l100_gm8 := N100.ge gm8
        have l100_gm10 := N100.ge gm10
        have g := g.trans N100.g
        have gm8 := gm8.trans (N100.g)
        have gm10 := gm10.trans (N100.g)
        replace E := E.new N100
        refine Ya J (Zo Qd Yo (aqc J aq0) J) (Xba [30, 33] _ _ _ _ E.g0.row (by decide)) ?_
        rintro v101 w101 ⟨hA101, g101⟩
        have hq101 := hA101
        obtain ⟨f101, fs101, cs101, rfl, hgo101, hf101⟩ := hq101
        refine ⟨fun _ => g101, ?_⟩
        have g := g.trans g101
        have gm8 := gm8.trans (g101)
        have gm10 := gm10.trans (g101)
        replace E := E.grow g101
        have gm101 := G.refl w101
        refine Yb _ J Wu Vu (pqc J pq0) J J ?_
        intro b102 w102 N102
        have l102 := N102.ge g
        have l102_gm8 := N102.ge gm8
        have l102_gm10 := N102.ge gm10
        have l102_gm101 := N102.ge gm101
        have g := g.trans N102.g
        have gm101 := gm101.trans (N102.g)
        replace E := E.new N102
        refine Xk J (Zo Uu Yo (aqc J (aqc J aq0)) J) (Xla t _ _ D [memK [30, 33]] _ _ _ _ _ (hk.grow g) J E.g0.row (fun i h => by match i, h with | 0, _ => exact hA101.grow gm101) hc) (fun w103 g103 => ?_)
        have g := g.trans g103
        replace E := E.grow g103
        refine Zp J (Zb (kq (Zr (Yx J J ?_))))
        refine ⟨Ygg ?_, g⟩
        unfold formB; simp only [anyK, h1, h5, h6, h7, h8, h9, h18, h22, h23, cond_true, cond_false] <;> rfl
      refine Ze (Ze (Zg (Xt J J (Zp J (Zb (kq (?_)))))))
      refine' Xi [(1, _, _), (2, _, _), (3, _, _), (12, _, _)] (Za J (Za J (Za J (Za J (Za J (Zj _)))))) J (fun hb24 => ?y24) (kq ?n24)
      case y24 =>
       refine Zg (Xt J J (Zp J (Wh [(104, _, _), (1, _, _), (2, _, _), (3, _, _), (12, _, _)] (Za J (Za J (Za J (Za J (Za J (Zj _)))))) (?_))))
       exact Zb knr
      case n24 =>
       refine Yv J (fun h25 => ?_) (fun h25 => ?_)
       · (try simp only [Xq] at h25)
         refine Ze (Wr [0, 1, 1, 1, 1, 3] [true, true, true, true, true, true] [0, 0, 2, 6, 15, 31] mix (by kernel_rfl) ?_)
         have g := gdr g
         have gm8 := gm8.trans (G.drew _)
         have gm10 := gm10.trans (G.drew _)
         replace E := E.dr
         refine Yk Zc J J E.g2.row (Yb _ J Ul Yxa (pqc J pq0) J J ?_)
         intro b108 w108 N108
         have l108 := N108.ge g
         have l108_gm8 := N108.ge gm8
         have l108_gm10 := N108.ge gm10
         have g := g.trans N108.g
         have gm8 := gm8.trans (N108.g)
         have gm10 := gm10.trans (N108.g)
         replace E := E.new N108
         refine Ya J (Zo Qd Yo (aqc J aq0) J) (Xba [30] _ _ _ _ E.g0.row (by decide)) ?_
         rintro v109 w109 ⟨hA109, g109⟩
         have hq109 := hA109
         obtain ⟨f109, fs109, cs109, rfl, hgo109, hf109⟩ := hq109
         refine ⟨fun _ => g109, ?_⟩
         have g := g.trans g109
         have gm8 := gm8.trans (g109)
         have gm10 := gm10.trans (g109)
         replace E := E.grow g109
         have gm109 := G.refl w109
         refine Yb _ J Wu Vu (pqc J pq0) J J ?_
         intro b110 w110 N110
         have l110 := N110.ge g
         have l110_gm8 := N110.ge gm8
         have l110_gm10 := N110.ge gm10
         have l110_gm109 := N110.ge gm109
         have g := g.trans N110.g
         have gm109 := gm109.trans (N110.g)
         replace E := E.new N110
         refine Xk J (Zo Uu Yo (aqc J (aqc J aq0)) J) (Xla t _ _ D [memK [30]] _ _ _ _ _ (hk.grow g) J E.g0.row (fun i h => by match i, h with | 0, _ => exact hA109.grow gm109) hc) (fun w111 g111 => ?_)
         have g := g.trans g111
         replace E := E.grow g111
         refine Zp J (Zb (kq (Zr (Yx J J ?_))))
         refine ⟨Ygg ?_, g⟩
         unfold formB; simp only [anyK, h1, h5, h6, h7, h8, h9, h18, h22, h23, h25, cond_true, cond_false] <;> rfl
       refine Ze (Zg (Xt J J (Zp J (Zb (kq (Yv J (fun h26 => ?_) (fun h26 => ?_)))))))
       · (try simp only [Xq] at h26)
         refine Ze (Wr [0, 3, 1, 1, 1, 1, 3] [true, true, true, true, true, true, true] [0, 0, 0, 4, 14, 31, 63] mix (by kernel_rfl) ?_)
         have g := gdr g
         have gm8 := gm8.trans (G.drew _)
         have gm10 := gm10.trans (G.drew _)
         replace E := E.dr
         refine Yk Zc J J E.g2.row (Zt J (Yb _ J Ul Yxa (pqc J (pqc J (pqc J pq0))) J J ?_))
         intro b116 w116 N116
         have l116 := N116.ge g
         have l116_gm8 := N116.ge gm8
         have l116_gm10 := N116.ge gm10
         have g := g.trans N116.g
         have gm8 := gm8.trans (N116.g)
         have gm10 := gm10.trans (N116.g)
         replace E := E.new N116
         refine Ya J (Zo Qd Yo (aqc J aq0) J) (Xba [10, 18, 9] _ _ _ _ E.g0.row (by decide)) ?_
         rintro v117 w117 ⟨hA117, g117⟩
         have hq117 := hA117
         obtain ⟨f117, fs117, cs117, rfl, hgo117, hf117⟩ := hq117
         refine ⟨fun _ => g117, ?_⟩
         have g := g.trans g117
         have gm8 := gm8.trans (g117)
         have gm10 := gm10.trans (g117)
         replace E := E.grow g117
         have gm117 := G.refl w117
         refine Yb _ J Wu Vu (pqc J (pqc J (pqc J pq0))) J J ?_
         intro b118 w118 N118
         have l118 := N118.ge g
         have l118_gm8 := N118.ge gm8
         have l118_gm10 := N118.ge gm10
         have l118_gm117 := N118.ge gm117
         have g := g.trans N118.g
         have gm8 := gm8.trans (N118.g)
         have gm117 := gm117.trans (N118.g)
         replace E := E.new N118
         refine Xk J (Zo Uu Yo (aqc J (aqc J aq0)) J) (Xla t _ _ D [expK, memK [10], memK [10, 18, 9]] _ _ _ _ _ (hk.grow g) J E.g0.row (fun i h => by match i, h with | 0, _ => exact Wra Uy Zca _ | 1, _ => exact hA8.grow gm8 | 2, _ => exact hA117.grow gm117) hc) (fun w119 g119 => ?_)
         have g := g.trans g119
         replace E := E.grow g119
         refine Zp J (Zb (kq (Zr (Yx J J ?_))))
         refine ⟨Ygg ?_, g⟩
         unfold formB; simp only [anyK, h1, h5, h6, h7, h8, h9, h18, h22, h23, h25, h26, cond_true, cond_false] <;> rfl
       refine Ze (Zg (Xt J J (Zp J (Zb (kq (Yv J (fun h27 => ?_) (fun h27 => ?_)))))))
       · (try simp only [Xq] at h27)
         refine Ze (Wr [0, 1, 1, 3, 1, 1, 3] [true, true, true, false, true, true, true] [0, 0, 2, 0, 14, 31, 63] mix (by kernel_rfl) ?_)
         have g := gdr g
         have gm8 := gm8.trans (G.drew _)
         have gm10 := gm10.trans (G.drew _)
         replace E := E.dr
         refine Yk Zc J J E.g2.row (Yb _ J Ul Yxa (pqc J pq0) J J ?_)
         intro b123 w123 N123
         have l123 := N123.ge g
         have l123_gm8 := N123.ge gm8
         have l123_gm10 := N123.ge gm10
         have g := g.trans N123.g
         have gm8 := gm8.trans (N123.g)
         have gm10 := gm10.trans (N123.g)
         replace E := E.new N123
         refine Ya J (Zo Zza Yo (aqc J (aqc J aq0)) J) (Zkb expK [9] _ _ _ _ _ (Wra Uy Zca _) E.g0.row (by decide)) ?_
         rintro v124 w124 ⟨hA124, g124⟩
         have hq124 := hA124
         obtain ⟨f124, fs124, cs124, rfl, hgo124, hf124⟩ := hq124
         refine ⟨fun _ => g124, ?_⟩
         have g := g.trans g124
         have gm8 := gm8.trans (g124)
         have gm10 := gm10.trans (g124)
         replace E := E.grow g124
         have gm124 := G.refl w124
         refine Zt J (Yb _ J Wu Vu (pqc J (pqc J pq0)) J J ?_)
         intro b126 w126 N126
         have l126 := N126.ge g
         have l126_gm8 := N126.ge gm8
         have l126_gm10 := N126.ge gm10
         have l126_gm124 := N126.ge gm124
         have g := g.trans N126.g
         have gm8 := gm8.trans (N126.g)
         have gm124 := gm124.trans (N126.g)
         replace E := E.new N126
         refine Xk J (Zo Uu Yo (aqc J (aqc J aq0)) J) (Xla t _ _ D [fun k => expK k || memK [9] k, memK [10]] _ _ _ _ _ (hk.grow g) J E.g0.row (fun i h => by match i, h with | 0, _ => exact hA124.grow gm124 | 1, _ => exact hA8.grow gm8) hc) (fun w127 g127 => ?_)
         have g := g.trans g127
         replace E := E.grow g127
         refine Zp J (Zb (kq (Zr (Yx J J ?_))))
         refine ⟨Ygg ?_, g⟩
         unfold formB; simp only [anyK, h1, h5, h6, h7, h8, h9, h18, h22, h23, h25, h26, h27, cond_true, cond_false] <;> rfl
       refine Ze (Zg (Xt J J (Zp J (Zb (kq (Yv J (fun h28 => ?_) (fun h28 => ?_)))))))
       · (try simp only [Xq] at h28)
         refine Ze (Zg (Zx Zi J (Yg Zh J (E.g2.at_ J) (Qu Zf J (Xt J J (Zt J (Yj J J J (Xd Zc (Zk J) J (fun _ => E.g2.row)) (Wnb [_] J J J Wu Vu (Wk Yo (Qk)) J J ?_))))))))
         intro b136 w136 g136 hB136
         have g := g.trans g136
         replace E := E.grow g136
         refine We J J J (fun _ => (Zo Uu Yo (Xf (Zq J id) (Xf (Zq J id) (Xw))) J)) (fun hc => Xla t _ _ D [expK] _ _ _ _ _ (hk.grow g) J (hB136 hc).row (fun i h => by match i, h with | 0, _ => exact Wra Uy Zca _) hc0) (fun w137 g137 => ?_)
         have g := g.trans g137
         replace E := E.grow g137
         refine Yi J (fun _ => Xh (Zk J) (Zq J id)) (Zp J (Zb (kq (Zr (Yx J J ?_)))))
         refine ⟨Ygg ?_, g⟩
         unfold formB; simp only [anyK, h1, h5, h6, h7, h8, h9, h18, h22, h23, h25, h26, h27, h28, cond_true, cond_false] <;> rfl
       refine Ze (Zg (Xt J J (Zp J (Zb (kq (Yv J (fun h29 => ?_) (fun h29 => ?_)))))))
       · (try simp only [Xq] at h29)
         refine Ze (Wr [0, 1, 1, 1, 3] [true, true, true, true, true] [0, 0, 2, 7, 15] mix (by kernel_rfl) ?_)
         have g := gdr g
         have gm8 := gm8.trans (G.drew _)
         have gm10 := gm10.trans (G.drew _)
         replace E := E.dr
         refine Yk Zc J J E.g2.row (Yb _ J Ul Yxa (pqc J pq0) J J ?_)
         intro b142 w142 N142
         have l142 := N142.ge g
         have l142_gm8 := N142.ge gm8
         have l142_gm10 := N142.ge gm10
         have g := g.trans N142.g
         replace E := E.new N142
         refine Ya J (Zo Qd Yo (aqc J aq0) J) (Xba [23] _ _ _ _ E.g0.row (by decide)) ?_
         rintro v143 w143 ⟨hA143, g143⟩
         have hq143 := hA143
         obtain ⟨f143, fs143, cs143, rfl, hgo143, hf143⟩ := hq143
         refine ⟨fun _ => g143, ?_⟩
         have g := g.trans g143
         replace E := E.grow g143
         have gm143 := G.refl w143
         refine Xk J (Zo Yma Yo (aqc J (aqc J (aqc J aq0))) J) (Wpb t _ _ D (memK [23]) _ _ (hk.grow g) (hA143.grow gm143) hc) (fun w144 g144 => ?_)
         have g := g.trans g144
         replace E := E.grow g144
         refine Zp J (Zb (kq (Zr (Yx J J ?_))))
         refine ⟨Ygg ?_, g⟩
         unfold formB; simp only [anyK, h1, h5, h6, h7, h8, h9, h18, h22, h23, h25, h26, h27, h28, h29, cond_true, cond_false] <;> rfl
       refine Ze (Zg (Xt J J (Zp J (Zb (kq (Yv J (fun h30 => ?_) (fun h30 => ?_)))))))
       · (try simp only [Xq] at h30)
         refine Ze (Zg (?_))
         obtain ⟨p0, c0, h0x⟩ := Vka hk 0
         obtain ⟨p1, c1, h1x⟩ := Vka hk 1
         refine Zx Zi J (Yg Zh J (E.g2.at_ J) (Qu Zf J (Xt J J (Zt J (Zn J J J (fun _ => Zv Zi (Zk J)) (Yj J J J (Ye Zh (Zq J id) (fun _ => E.g2.at_ J)) (Zn J J J (fun _ => Wj Zf (Zq J id) Xy (fun hc => by have := of_decide_eq_true hc.2; omega) (fun hc => (h0x (by have := of_decide_eq_true hc.2; omega)).1)) (Yj J J J (Xd Zc (Zq J id) J (fun hc => (h0x (by have := of_decide_eq_true hc.2; omega)).2.1.grow g)) (We J J J (fun _ => (Zo Jza Yo (Xf (Zq J id) (Xw)) J)) (fun hc => Wrf (Zd t 0) _ _ D _ ((h0x (by have := of_decide_eq_true hc.2; omega)).2.2.grow g) (hcc 0)) (fun w156 g156 => ?_))))))))))
         have g := g.trans g156
         have gm8 := gm8.trans (g156)
         replace E := E.grow g156
         refine Yi J (fun _ => Zz (Zk J) (Zq J id)) (Zt J (Zn J J J (fun _ => Yl (Zk J)) (Zn J J J (fun _ => Zv Zi (Zk J)) (Yj J J J (Ye Zh (Zq J id) (fun _ => E.g2.at_ J)) (Zn J J J (fun _ => Wj Zf (Zq J id) Xy (fun hc => by have := of_decide_eq_true (Bool.and_eq_true_iff.1 hc.2).1; omega) (fun hc => (h1x (by have := of_decide_eq_true (Bool.and_eq_true_iff.1 hc.2).1; omega)).1)) (Zn J J J (fun _ => Zv Yd (Zq J id)) (Yj J J J (Ye Zu (Zq J id) (fun hc => ((h1x (by have := of_decide_eq_true (Bool.and_eq_true_iff.1 hc.2).1; omega)).2.1.grow g) 0 _ J)) (We J J J (fun _ => (Zo hgo8 (Zq J id) (Xf (Zq J id) (Xw)) J)) (fun hc => hf8 _ _ gm8) (fun w165 g165 => ?_)))))))))
         have g := g.trans g165
         replace E := E.grow g165
         refine Yi J (fun _ => Zz (Zk J) (Zq J id)) (Zp J (Zb (kq (Zr (Yx J J ?_)))))
         refine ⟨Ygg ?_, g⟩
         unfold formB; simp only [anyK, h1, h5, h6, h7, h8, h9, h18, h22, h23, h25, h26, h27, h28, h29, h30, cond_true, cond_false] <;> rfl
       refine Ze (Zg (Xt J J (Zp J (Zb (kq (Yv J (fun h31 => ?_) (fun h31 => ?_)))))))
       · (try simp only [Xq] at h31)
         refine Ze (Zg (Zx Zi J (Yg Zh J (E.g2.at_ J) (Qu Zf J (Ved J J (Zt J (Yj J J J (Xd Zc (Zk J) J (fun _ => E.g2.row)) (We J J J (fun _ => (Zo Yma Yo (Xf (Zq J id) (Xf Xy (Xf Yo (Xw)))) J)) (fun hc => Wpb t _ _ D expK _ _ (hk.grow g) (Wra Uy Zca _) hc0) (fun w175 g175 => ?_)))))))))
         have g := g.trans g175
         replace E := E.grow g175
         refine Yi J (fun _ => Zz (Zk J) (Zq J id)) (Zp J (Zb (kq (Zr (Yx J J ?_)))))
         refine ⟨Ygg ?_, g⟩
         unfold formB; simp only [anyK, h1, h5, h6, h7, h8, h9, h18, h22, h23, h25, h26, h27, h28, h29, h30, h31, cond_true, cond_false] <;> rfl
       refine Ze (Zg (Xt J J (Zp J (Zb (kq (Yv J (fun h32 => ?_) (fun h32 => ?_)))))))
       · (try simp only [Xq] at h32)
         refine Ze (Zg (Zx Zi J (Yg Zh J (E.g2.at_ J) (Qu Zf J (Xt J J (Zt J (Zn J J J (fun _ => Zv Xl (Zk J)) (Yj J J J (Ye Zu (Zq J id) (fun _ => E.g2.at_ J)) (Zn J J J (fun _ => Ugb (Zq J id) Xy) (Yi J (fun _ => Zz (Zk J) (Zq J id)) (Zp J (Zb (kq (Zr (Yx J J ?_)))))))))))))))
         refine ⟨Ygg ?_, g⟩
         unfold formB; simp only [anyK, h1, h5, h6, h7, h8, h9, h18, h22, h23, h25, h26, h27, h28, h29, h30, h31, h32, cond_true, cond_false] <;> rfl
       refine Ze (Zg (Xt J J (Zp J (Zb (kq (Yv J (fun h33 => ?_) (fun h33 => ?_)))))))
       · (try simp only [Xq] at h33)
         refine Ze (Zg (Zx Zi J (Yg Zh J (E.g2.at_ J) (Qu Zf J (Xt J J (Zt J (Zn J J J (fun _ => Zv Xl (Zk J)) (Yj J J J (Ye Zu (Zq J id) (fun _ => E.g2.at_ J)) (Zn J J J (fun _ => Vt (Zq J id) Xy) (Zn J J J (fun _ => Yl (Zq J id)) (Zn J J J (fun _ => Zv Xl (Zk J)) (Yj J J J (Ye Zu (Zq J id) (fun _ => E.g2.at_ J)) (Zn J J J (fun _ => Vt (Zq J id) Xy) (Zn J J J (fun _ => Xh (Zq J id) (Zq J id)) (Yi J (fun _ => Zz (Zk J) (Zq J id)) (?_))))))))))))))))
         refine Zp J (Zb (kq (Zr (Yx J J ?_))))
         refine ⟨Ygg ?_, g⟩
         unfold formB; simp only [anyK, h1, h5, h6, h7, h8, h9, h18, h22, h23, h25, h26, h27, h28, h29, h30, h31, h32, h33, cond_true, cond_false] <;> rfl
       refine Ze (Ze (Zg (Xt J J (Zp J (Zb (kq (?_)))))))
       refine' Xi [(1, _, _), (2, _, _), (3, _, _), (12, _, _)] (Za J (Za J (Za J (Za J (Za J (Zj _)))))) J (fun hb34 => ?y34) (kq ?n34)
       case y34 =>
        refine Ze (Zg (Xt J J (Zp J (Zb (kq (?_))))))
        refine' Xi [(1, _, _), (2, _, _), (3, _, _), (12, _, _)] (Za J (Za J (Za J (Za J (Za J (Zj _)))))) J (fun hb35 => ?y35) knr
        case y35 =>
         refine Ze (Zg (Xt J J (Zp J (Zb (kq (?_))))))
         refine' Xi [(1, _, _), (2, _, _), (3, _, _), (12, _, _)] (Za J (Za J (Za J (Za J (Za J (Zj _)))))) J (fun hb36 => ?y36) knr
         case y36 =>
          refine Ze (Zg (Xt J J (Zp J (Zb (kq (?_))))))
          refine' Xi [(1, _, _), (2, _, _), (3, _, _), (12, _, _)] (Za J (Za J (Za J (Za J (Za J (Zj _)))))) J (fun hb37 => ?y37) knr
          case y37 =>
           refine Ze (Zg (Xt J J (Zp J (Zb (kq (?_))))))
           refine' Xi [(1, _, _), (2, _, _), (3, _, _), (12, _, _)] (Za J (Za J (Za J (Za J (Za J (Zj _)))))) J (fun hb38 => ?y38) knr
           case y38 =>
            refine Zg (Xt J J (Zp J (Wh [(204, _, _), (1, _, _), (2, _, _), (3, _, _), (12, _, _)] (Za J (Za J (Za J (Za J (Za J (Zj _)))))) (?_))))
            exact Zb knr
       case n34 =>
        refine Yv J (fun h39 => ?_) (fun h39 => ?_)
        · (try simp only [Xq] at h39)
          refine Ze (Zg (Zx Zi J (Yg Zh J (E.g2.at_ J) (Qu Zf J (Xt J J (Zp J (Zb (kq (Zr (Yx J J ?_))))))))))
          refine ⟨Ygg ?_, g⟩
          unfold formB; simp only [anyK, h1, h5, h6, h7, h8, h9, h18, h22, h23, h25, h26, h27, h28, h29, h30, h31, h32, h33, h39, cond_true, cond_false] <;> rfl
        refine Ze (Zg (Xt J J (Zp J (Zb (kq (Yv J (fun h40 => ?_) (fun h40 => ?_)))))))
        · (try simp only [Xq] at h40)
          refine Ze (Zg (Yk Zc J J E.g2.row (Zt J (Yb _ J Wu Vu (pqc J pq0) J J ?_))))
          intro b219 w219 N219
          have l219 := N219.ge g
          have l219_gm8 := N219.ge gm8
          have l219_gm10 := N219.ge gm10
          have g := g.trans N219.g
          have gm8 := gm8.trans (N219.g)
          replace E := E.new N219
          refine Xk J (Zo Uu Yo (aqc J (aqc J aq0)) J) (Xla t _ _ D [memK [10]] _ _ _ _ _ (hk.grow g) J E.g0.row (fun i h => by match i, h with | 0, _ => exact hA8.grow gm8) hc) (fun w220 g220 => ?_)
          have g := g.trans g220
          replace E := E.grow g220
          refine Zp J (Zb (kq (Zr (Yx J J ?_))))
          refine ⟨Ygg ?_, g⟩
          unfold formB; simp only [anyK, h1, h5, h6, h7, h8, h9, h18, h22, h23, h25, h26, h27, h28, h29, h30, h31, h32, h33, h39, h40, cond_true, cond_false] <;> rfl
        refine Yc (kq (Ze (Zg (Zp J (Zb (kq (Zr (Yx J J ?_))))))))
        refine ⟨Ygg ?_, g⟩
        unfold formB; simp only [anyK, h1, h5, h6, h7, h8, h9, h18, h22, h23, h25, h26, h27, h28, h29, h30, h31, h32, h33, h39, h40, cond_true, cond_false] <;> rfl
def locB (t : Nd) : Bool := textB' t && formB t
def permF (t : Nd) : Bool := para (fun t l => locB t && l.all id) t
theorem Uv (t : Nd) : permF t = (locB t && t.kids.all permF) := by
 rw [permF, Xja, List.all_map]; rfl
def maxL (l : List Nat) : Nat := l.foldl max 0
def depthN (t : Nd) : Nat := para (fun _ l => maxL l + 1) t
theorem Zlb (t : Nd) : depthN t = maxL (t.kids.map depthN) + 1 := Xja _ t
theorem Xsd (l : List Nat) (a d : Nat) : l.foldl max a ≤ d ↔ a ≤ d ∧ ∀ x ∈ l, x ≤ d := by
 induction l generalizing a with
 | nil => simp
 | cons x xs ih => simp only [List.foldl_cons, ih, List.forall_mem_cons, Nat.max_le, and_assoc]
theorem Wec (l : List Nat) (d : Nat) : maxL l ≤ d ↔ ∀ x ∈ l, x ≤ d := by
 rw [maxL, Xsd]; exact ⟨fun h => h.2, fun h => ⟨Nat.zero_le _, h⟩⟩
theorem Vjb (t : Nd) (d : Nat) : depthN t ≤ d ↔ 0 < d ∧ ∀ k ∈ t.kids, depthN k ≤ d - 1 := by
 rw [Zlb]
 constructor
 ·intro h
  refine ⟨by omega, fun k hk => ?_⟩
  have := (Wec (t.kids.map depthN) (d - 1)).1 (by omega)
  exact this _ (List.mem_map_of_mem hk)
 ·rintro ⟨h0, h⟩
  have := (Wec (t.kids.map depthN) (d - 1)).2 (fun x hx => by obtain ⟨k, hk, rfl⟩ := List.mem_map.1 hx; exact h k hk)
  omega
theorem Qha (t : Nd) : 1 ≤ depthN t := by rw [Zlb]; omega
theorem Xtd : ∀ t, depthN t ≤ count t := by
 refine Nd.ind fun t ih => ?_
 rw [Vjb]
 exact ⟨Jo t, fun k hk => by have := ih k hk; have := Zma hk; omega⟩
def permB (d : Nat) (t : Nd) : Bool := permF t && decide (depthN t ≤ d)
theorem Zpe (t : Nd) : permB 0 t = false := by
 have := Qha t
 rw [permB, Yeg (by omega), Bool.and_false]
theorem Uid {d : Nat} (h : 0 < d) (t : Nd) : permB d t = ((textB' t && formB t) && t.kids.all (permB (d - 1))) := by
 rw [Bool.eq_iff_iff, permB, Uv, locB]
 simp only [Bool.and_eq_true, decide_eq_true_eq, Vjb t d, List.all_eq_true, permB]
 constructor
 ·rintro ⟨⟨h1, h2⟩, _, h3⟩; exact ⟨h1, fun k hk => ⟨h2 k hk, h3 k hk⟩⟩
 ·rintro ⟨h1, h2⟩; exact ⟨⟨h1, fun k hk => (h2 k hk).1⟩, h, fun k hk => (h2 k hk).2⟩
theorem Zid {t : Nd} {n : Nat} (h : count t ≤ n) (i : Nat) : (Zd t i).kids.length ≤ n := by
 by_cases hi : i < t.kids.length
 ·rw [Wm hi]
  have := Zma (List.getElem_mem hi)
  have := Qt t.kids[i]
  omega
 ·have : Zd t i = nd0 := by simp only [Zd, List.getD_eq_getElem?_getD]; rw [List.getElem?_eq_none (by omega)]; rfl
  rw [this]; exact Nat.zero_le _
theorem Xud : ∀ (t : Nd) (v : Value) (D : Nat → Prop) (d : Nat) (w : World), Laid w → 4 ≤ w.heap.size → Kd w D t.kids v → count t ≤ 1000000 → d ≤ 1000000 → Ret PP Vqb #[ndV t v, .int .i64 (d : Int)] w fun r w' => r = .bool (permB d t) ∧ G w w' := by
 refine Nd.ind fun t ih v D d w hL hb3 hk hcn hd => ?_
 have hk0 := hk
 obtain ⟨p, c, rfl, hcap, hks⟩ := hk
 have g := G.refl w
 have hlen := Qt t
 refine Yp (m := 32) Yzb J J [(0, True, _), (1, True, _)] (Za J (Za J (Zj _))) ?_
 refine Ze (Zg (Wq J (Zk J) J ?_))
 intro b2 w2 N2
 have l2 := N2.ge g
 have g := g.trans N2.g
 have E := (Wo _).new N2
 refine Zp J (Zb (kq (Ze (Ze (Zg (Zt J (Xt J J (Zt J (Yj J J J (Xd Zc (Zk J) J (fun _ => E.g0.row)) (We J J J (fun _ => (Zo Voc Yo (Xf (Zq J id) (Xw)) J)) (fun hc => Jue t _ _ _ (hL.grow g) (by have := g.size; omega)) (fun w11 g11 => ?_)))))))))))
 have g := g.trans g11
 replace E := E.grow g11
 refine Zn J J J (fun _ => Xqa (Zq J id)) (Yi J (fun _ => Xh (Zk J) (Zq J id)) (Zt J (Yj J J J (Xd Zc (Zk J) J (fun _ => E.g0.row)) (We J J J (fun _ => (Zo Vqc Yo (Xf (Zq J id) (Xw)) J)) (fun hc => Wsf t _ _ D _ (hk0.grow g) (by omega) (fun i => Zid hcn i)) (fun w16 g16 => ?_)))))
 have g := g.trans g16
 replace E := E.grow g16
 refine Zn J J J (fun _ => Xqa (Zq J id)) (Yi J (fun _ => Xh (Zk J) (Zq J id)) (Zb (kq (Yv J (fun h1 => ?_) (fun h1 => ?_)))))
 ·have hN : permB d t = false := by
   rw [Bool.or_eq_true, Bool.or_eq_true, decide_eq_true_eq, Bool.not_eq_true', Bool.not_eq_true'] at h1
   by_cases h0 : d = 0
   ·rw [h0]; exact Zpe t
   ·rw [Uid (by omega)]
    rcases h1 with (h1 | h1) | h1
    ·omega
    ·rw [h1]; rfl
    ·rw [h1, Bool.and_false]; rfl
  refine Ze (Zg (Zp J (Zb (kq (Zr (Yx J J ?_))))))
  rw [hN]; exact ⟨rfl, g⟩
 have hpos : 0 < d := by
  rcases Nat.eq_zero_or_pos d with h0 | h0
  ·rw [h0] at h1; exact absurd h1 (by simp)
  ·exact h0
 have hloc : (textB' t && formB t) = true := by
  rw [Bool.or_eq_false_iff, Bool.or_eq_false_iff, Bool.not_eq_false', Bool.not_eq_false'] at h1
  rw [h1.1.2, h1.2]; rfl
 have hN := Uid hpos t
 rw [hloc, Bool.true_and] at hN
 refine Yc (kq (Ze (Ze (Zg (Zx Zi J (Yg Zh J (E.g0.at_ J) (Qu Zf J (Zt J (Zb (kq (Yu (Qq (fun (i : Nat) u1 => (i ≤ t.kids.length ∧ ∀ j, (h : j < t.kids.length) → j < i → permB (d - 1) t.kids[j] = true) ∧ G w16 u1) [(1, True, _), (20, True, _), (21, True, _)] (fun (i : Nat) => [(22, True, .int .i64 i)]) (fun (i : Nat) => t.kids.length - i) (0) ⟨⟨Nat.zero_le _, fun j _ hj => absurd hj (Nat.not_lt_zero j)⟩, G.refl _⟩ (Za J (Za J (Za J (Za J (Zj _))))) ?_))))))))))))
 rintro i u1 ⟨hI1, gl1⟩
 have g := g.trans gl1
 replace E := E.grow gl1
 refine Ze (Zg (Zfa J J (Zb (kq (Ze (Yv J (fun h2 => ?_) (fun h2 => ?_)))))))
 ·replace h2 : i < t.kids.length := by simp only [decide_eq_true_eq] at h2; omega
  obtain ⟨b, o, rfl, hD, xs, hR, hX⟩ := hks (by omega)
  obtain ⟨p', c', hcell, hkid⟩ := Qta hR hX h2
  have hck := Xka h2
  refine Yc (kq (Ze (Yu (Ze (Zg (Jta Zf J J (by omega) (Yk Zc J J (hcell.grow g) (Yh J Zm J ?_))))))))
  intro b6 w6 N6
  have l6 := N6.ge g
  have l6_gl1 := N6.ge gl1
  have g := g.trans N6.g
  have gl1 := gl1.trans (N6.g)
  replace E := E.new N6
  refine Yt Zl J J J E.g0 ?_
  intro wS1 hgS1 _ BS
  replace E := E.s0 hgS1 BS
  have g := Zw g hgS1 (by omega)
  first | replace gl1 := Zw gl1 hgS1 (by omega) | clear gl1 | skip
  refine Zb (kq (Ze (Zg (Yk Zc J J E.g0.row (Zt J (Yi J (fun _ => Xsf (r := ((d - 1 : Nat) : Int)) (Zk J) Xy (fun hc => (by rw [Yfd ⟨by omega, by omega⟩]; omega))) (Xk J (Zo Vxa Yo (aqc J (aqc J aq0)) J) (ih _ (List.getElem_mem h2) _ _ (d - 1) _ (hL.grow g) (by have := g.size; omega) (hkid.grow g) (by omega) (by omega)) (fun w29 g29 => ?_))))))))
  have g := g.trans g29
  have gl1 := gl1.trans (g29)
  replace E := E.grow g29
  refine Wia J (Zb (kq (Yv J (fun h3 => ?_) (fun h3 => ?_))))
  ·(try simp only [Xq] at h3)
   refine Ze (Zg (Zp J (Zb (kq (Zr (Yx J J ?_))))))
   refine ⟨Ygg ?_, g⟩
   rw [eq_comm, hN, List.all_eq_false]
   exact ⟨_, List.getElem_mem h2, by simpa using h3⟩
  refine Yc (kq (Zg (Qv J J (by omega) (Zt J (Wh [(22, _, _), (1, _, _), (20, _, _), (21, _, _)] (Za J (Za J (Za J (Za J (Zj _))))) (Zb (fun a ha => ?_)))))))
  refine ⟨i + 1, ha, ⟨⟨h2, fun j h hj => ?_⟩, gl1⟩, by omega⟩
  by_cases e : j = i
  ·subst e; simpa using h3
  ·exact hI1.2 j h (by omega)
 refine Vq J (kq (Ze (Zg (Zp J (Zb (kq (Zr (Yx J J ?_))))))))
 refine ⟨Ygg ?_, g⟩
 rw [eq_comm, hN, List.all_eq_true]
 intro x hx
 obtain ⟨j, hj, rfl⟩ := List.getElem_of_mem hx
 exact hI1.2 j hj (by simp only [decide_eq_false_iff_not] at h2; omega)
def validB (t : Nd) : Bool := decide (t.kind = 1) && permB 50 t
theorem Voe (t : Nd) (v : Value) (D : Nat → Prop) (w : World) (hL : Laid w) (hb3 : 4 ≤ w.heap.size) (hk : Kd w D t.kids v) (hcn : count t ≤ 1000000) : Ret PP Yqc #[ndV t v] w fun r w' => r = .bool (validB t) ∧ G w w' := by
 have g := G.refl w
 refine Yp (m := 10) Qub J J [(0, True, _)] (Za J (Zj _)) ?_
 refine Ze (Zg (Wq J (Zk J) J ?_))
 intro b1 w1 N1
 have l1 := N1.ge g
 have g := g.trans N1.g
 have E := (Wo _).new N1
 refine Zp J (Zb (kq (Ze (Zg (Zx Yd J (Yg Zu J (E.g0.at_ J) (Xt J J (Zt J (Yj J J J (Xd Zc (Zk J) J (fun _ => E.g0.row)) (We J J J (fun _ => (Zo Vxa Yo (Xf (Zq J id) (Xf Xy (Xw))) J)) (fun hc => Xud t _ D 50 _ (hL.grow g) (by have := g.size; omega) (hk.grow g) hcn (by decide)) (fun w8 g8 => ?_)))))))))))
 have g := g.trans g8
 replace E := E.grow g8
 refine Yi J (fun _ => Zz (Zk J) (Zq J id)) (Zp J (Zb (kq (Zr (Yx J J ?_)))))
 exact ⟨rfl, g⟩
def exprB (t : Nd) : Bool := expK t.kind && permF t
def blockB (t : Nd) : Bool := decide (t.kind = 10) && permF t
def stmtB (t : Nd) : Bool := stK t.kind && permF t
def ifB (t : Nd) : Bool := decide (t.kind = 18) && permF t
def varB (t : Nd) : Bool := decide (t.kind = 6) && permF t
def commF (t : Nd) : Bool := commB t && permF t
def plainB (t : Nd) : Bool := decide (t.text = [])
def noneB (t : Nd) : Bool := (decide (t.kind = 9) && decide (t.text = [])) && lenK t 0
def kindB (t : Nd) (k : Int) : Bool := decide (t.kind = k) && exprB t
theorem Xle {α : Type} {l : List α} (h : l.length = 2) : ∃ a b, l = [a, b] := by
 match l, h with | [a, b], _ => exact ⟨a, b, rfl⟩
theorem Vpe {α : Type} {l : List α} (h : l.length = 3) : ∃ a b c, l = [a, b, c] := by
 match l, h with | [a, b, c], _ => exact ⟨a, b, c, rfl⟩
theorem Zia (a k : Int) : memK [a] k = decide (k = a) := by simp [memK]
theorem Wqb {t : Nd} (n : Nat) (h : t.kids.length ≠ n) : lenK t (n : Int) = false := by rw [lenK, Yeg]; omega
theorem Wfc {t : Nd} {qs : List (Int → Bool)} (h : t.kids.length ≠ qs.length) : kidsB t qs = false := by rw [kidsB, Yeg h, Bool.false_and]
theorem Jve {t : Nd} {f : Nd → Bool} : (lenK t 0 && t.kids.all f) = lenK t 0 := by
 by_cases h : t.kids.length = 0
 ·rw [List.length_eq_zero_iff.1 h, List.all_nil, Bool.and_true]
 ·rw [show lenK t 0 = false from Wqb 0 h]; rfl
theorem Zqe {t : Nd} {q : Int → Bool} : (kidsB t [q] && t.kids.all permF) = (lenK t 1 && (q (Zd t 0).kind && permF (Zd t 0))) := by
 by_cases h : t.kids.length = 1
 ·obtain ⟨a, ha⟩ := List.length_eq_one_iff.1 h
  simp [lenK, kidsB, Zd, ha, List.range_succ]
 ·rw [show lenK t 1 = false from Wqb 1 h, Wfc h]; rfl
theorem Xvd {t : Nd} {q q2 : Int → Bool} : (kidsB t [q, q2] && t.kids.all permF) = (lenK t 2 && ((q (Zd t 0).kind && permF (Zd t 0)) && (q2 (Zd t 1).kind && permF (Zd t 1)))) := by
 by_cases h : t.kids.length = 2
 ·obtain ⟨a, b, ha⟩ := Xle h
  simp [lenK, kidsB, Zd, ha, List.range_succ]; ac_rfl
 ·rw [show lenK t 2 = false from Wqb 2 h, Wfc h]; rfl
theorem Xwd {t : Nd} {q q2 q3 : Int → Bool} : (kidsB t [q, q2, q3] && t.kids.all permF) = (lenK t 3 && (((q (Zd t 0).kind && permF (Zd t 0)) && (q2 (Zd t 1).kind && permF (Zd t 1))) && (q3 (Zd t 2).kind && permF (Zd t 2)))) := by
 by_cases h : t.kids.length = 3
 ·obtain ⟨a, b, c, ha⟩ := Vpe h
  simp [lenK, kidsB, Zd, ha, List.range_succ]; ac_rfl
 ·rw [show lenK t 3 = false from Wqb 3 h, Wfc h]; rfl
theorem all_1 {t : Nd} {f : Nd → Bool} : (lenK t 1 && t.kids.all f) = (lenK t 1 && f (Zd t 0)) := by
 by_cases h : t.kids.length = 1
 ·obtain ⟨a, ha⟩ := List.length_eq_one_iff.1 h
  simp [lenK, Zd, ha]
 ·rw [show lenK t 1 = false from Wqb 1 h]; rfl
theorem Utf {t : Nd} {f : Nd → Bool} : (lenK t 2 && t.kids.all f) = (lenK t 2 && (f (Zd t 0) && f (Zd t 1))) := by
 by_cases h : t.kids.length = 2
 ·obtain ⟨a, b, ha⟩ := Xle h
  simp [lenK, Zd, ha]
 ·rw [show lenK t 2 = false from Wqb 2 h]; rfl
theorem Zmb {t : Nd} {q : Int → Bool} : (everyB t q && t.kids.all permF) = t.kids.all fun k => q k.kind && permF k := by
 rw [everyB, Bool.eq_iff_iff]
 simp only [Bool.and_eq_true, List.all_eq_true]
 exact ⟨fun h k hk => ⟨h.1 k hk, h.2 k hk⟩, fun h => ⟨fun k hk => (h k hk).1, fun k hk => (h k hk).2⟩⟩
theorem Wtf {t : Nd} : (everyB t expK && t.kids.all permF) = t.kids.all exprB := Zmb
def Jb (t : Nd) : Bool :=
 bif decide (t.kind = 24) then (plainB t && lenK t 0) && decide (0 ≤ t.num)
 else bif decide (t.kind = 25) then (plainB t && lenK t 0) && (decide (t.num = 0) || decide (t.num = 1))
 else bif decide (t.kind = 26) then plainB t && lenK t 0
 else bif anyK [27, 34] t.kind then nameB t.text && lenK t 0
 else bif decide (t.kind = 28) then (nameB t.text && lenK t 1) && exprB (Zd t 0)
 else bif decide (t.kind = 29) then (plainB t && lenK t 2) && t.kids.all exprB
 else bif decide (t.kind = 30) then (plainB t && decide (1 ≤ (t.kids.length : Int))) && t.kids.all exprB
 else bif decide (t.kind = 31) then ((decide (t.text = [45]) || decide (t.text = [33])) && lenK t 1) && exprB (Zd t 0)
 else bif decide (t.kind = 32) then (anyS binOps t.text && lenK t 2) && t.kids.all exprB
 else bif anyK [33, 35, 36, 37] t.kind then (plainB t && lenK t 1) && exprB (Zd t 0)
 else bif decide (t.kind = 38) then (plainB t && lenK t 1) && blockB (Zd t 0)
 else false
theorem fl0 {t : Nd} {X : Bool} : (X && lenK t 0) = ((X && lenK t 0) && t.kids.all permF) := by rw [Bool.and_assoc, Jve]
theorem fl0' {t : Nd} {X Y : Bool} : ((X && lenK t 0) && Y) = ((X && (lenK t 0 && Y)) && t.kids.all permF) := by
 rw [show ((X && (lenK t 0 && Y)) && t.kids.all permF) = ((X && Y) && (lenK t 0 && t.kids.all permF)) by simp only [Bool.and_assoc, Bool.and_comm, Bool.and_left_comm], Jve]
 simp only [Bool.and_assoc, Bool.and_comm, Bool.and_left_comm]
theorem fl1 {t : Nd} {X : Bool} {q : Int → Bool} : ((X && lenK t 1) && (q (Zd t 0).kind && permF (Zd t 0))) = ((X && kidsB t [q]) && t.kids.all permF) := by rw [Bool.and_assoc, Bool.and_assoc, Zqe]
theorem fl2 {t : Nd} {X : Bool} : ((X && lenK t 2) && t.kids.all exprB) = ((X && kidsB t [expK, expK]) && t.kids.all permF) := by rw [Bool.and_assoc, Bool.and_assoc, Xvd, Utf]; rfl
theorem flv {t : Nd} {X Y Z : Bool} (h : Y = Z) : ((X && Y) && t.kids.all exprB) = ((X && (Z && everyB t expK)) && t.kids.all permF) := by rw [Bool.and_assoc, Bool.and_assoc, Bool.and_assoc, Wtf, h]
theorem Zja (t : Nd) : Jb t = exprB t := by
 rw [exprB, Uv, locB]
 unfold Jb textB' formB
 by_cases h : t.kind = 24
 ·rw [h]; exact fl0'
 by_cases h1 : t.kind = 25
 ·rw [h1]; exact fl0'
 by_cases h2 : t.kind = 26
 ·rw [h2]; exact fl0
 by_cases h3 : t.kind = 27
 ·rw [h3]; exact fl0
 by_cases h4 : t.kind = 34
 ·rw [h4]; exact fl0
 by_cases h5 : t.kind = 28
 ·rw [h5]; exact fl1
 by_cases h6 : t.kind = 29
 ·rw [h6]; exact fl2
 by_cases h7 : t.kind = 30
 ·rw [h7]; exact flv (by rw [decide_eq_decide]; omega)
 by_cases h8 : t.kind = 31
 ·rw [h8]; exact fl1
 by_cases h9 : t.kind = 32
 ·rw [h9]; exact fl2
 by_cases h10 : t.kind = 33
 ·rw [h10]; exact fl1
 by_cases h11 : t.kind = 35
 ·rw [h11]; exact fl1
 by_cases h12 : t.kind = 36
 ·rw [h12]; exact fl1
 by_cases h13 : t.kind = 37
 ·rw [h13]; exact fl1
 by_cases h14 : t.kind = 38
 ·rw [h14]; refine Eq.trans ?_ (fl1 (X := plainB t) (q := memK [10])); rw [Zia]; rfl
 simp only [expK, anyK, Yeg h, Yeg h1, Yeg h2, Yeg h3, Yeg h4, Yeg h5, Yeg h6, Yeg h7, Yeg h8, Yeg h9, Yeg h10, Yeg h11, Yeg h12, Yeg h13, Yeg h14, Bool.or_false, cond_false, Bool.false_and]
def Jmb (t : Nd) : Bool := bif !decide (t.kind = 10) || !plainB t then false else t.kids.all stmtB
def Xme (t : Nd) : Bool := bif (!decide (t.kind = 18) || !plainB t) || !lenK t 3 then false else (exprB (Zd t 0) && blockB (Zd t 1)) && ((blockB (Zd t 2) || ifB (Zd t 2)) || noneB (Zd t 2))
def refVar (t : Nd) : Bool := (((decide (t.kind = 6) && nameB t.text) && lenK t 2) && isTypeB (Zd t 0)) && (noneB (Zd t 1) || exprB (Zd t 1))
theorem Xxd (a b p : Bool) : ((a && p) || (b && p)) = ((b || a) && p) := by cases a <;> cases b <;> cases p <;> rfl
theorem Jwe (a b c p : Bool) : (((a && p) || (b && p)) || (c && p)) = (((a || b) || c) && p) := by cases a <;> cases b <;> cases c <;> cases p <;> rfl
theorem Xyd (a b c : Bool) : (bif !a || !b then false else c) = ((a && b) && c) := by cases a <;> cases b <;> rfl
theorem Wuf (a b c d : Bool) : (bif (!a || !b) || !c then false else d) = (((a && b) && c) && d) := by cases a <;> cases b <;> cases c <;> rfl
theorem Vra (t : Nd) : noneB t = (decide (t.kind = 9) && permF t) := by
 rw [noneB]
 by_cases h : t.kind = 9
 ·rw [Uv, locB, textB', formB, h, Bool.and_assoc]; exact congrArg (true && ·) fl0
 ·rw [Yeg h]; rfl
theorem Qia (t : Nd) : isTypeB t = (typK t.kind && permF t) := by
 rw [Uv, locB]
 unfold isTypeB textB' formB
 by_cases h : t.kind = 8
 ·rw [h]; exact fl0
 by_cases h1 : t.kind = 7
 ·rw [h1]; exact fl0
 rw [Yeg h, Yeg h1, typK, anyK, anyK, Yeg h, Yeg h1]; rfl
theorem Yic (t : Nd) : Jmb t = blockB t := by
 rw [Jmb, blockB, Xyd]
 by_cases h : t.kind = 10
 ·rw [Uv, locB, textB', formB, h, Bool.and_assoc]; exact congrArg (true && ·) (by
   refine Eq.trans ?_ (Bool.and_assoc (plainB t) (everyB t stK) _).symm
   rw [Zmb]; rfl)
 ·rw [Yeg h]; rfl
theorem Ujd (t : Nd) : Xme t = ifB t := by
 rw [Xme, Wuf, show ifB t = (decide (t.kind = 18) && permF t) from rfl]
 by_cases h : t.kind = 18
 ·rw [Uv, locB, textB', formB, h, Bool.and_assoc, Bool.and_assoc]; exact congrArg (true && ·) (by
   refine Eq.trans ?_ (Bool.and_assoc (plainB t) (kidsB t [expK, memK [10], memK [10, 18, 9]]) _).symm
   rw [Xwd, Zia, Vra, show memK [10, 18, 9] (Zd t 2).kind = ((decide ((Zd t 2).kind = 10) || decide ((Zd t 2).kind = 18)) || decide ((Zd t 2).kind = 9)) by simp [memK, Bool.or_assoc], ← Jwe]; rfl)
 ·rw [Yeg h]; rfl
theorem Zjd (t : Nd) : refVar t = varB t := by
 rw [refVar, varB]
 by_cases h : t.kind = 6
 ·rw [Uv, locB, textB', formB, h, Bool.and_assoc, Bool.and_assoc, Bool.and_assoc]; exact congrArg (true && ·) (by
   refine Eq.trans ?_ (Bool.and_assoc (nameB t.text) (kidsB t [typK, fun k => expK k || memK [9] k]) _).symm
   rw [Xvd, Zia, Vra, Qia, show exprB (Zd t 1) = (expK (Zd t 1).kind && permF (Zd t 1)) from rfl, Xxd])
 ·rw [Yeg h]; rfl
def Qva (t : Nd) : Bool :=
 bif anyK [16, 9] t.kind then stmtB t || noneB t
 else bif decide (t.kind = 13) then stmtB t && decide ((Zd t 0).kind = 33)
 else bif decide (t.kind = 12) then stmtB t && decide ((Zd t 1).kind = 33)
 else bif decide (t.kind = 11) then stmtB t && decide ((Zd t 0).kind = 33)
 else false
theorem Ztc {t : Nd} (h : t.kind = 13 ∨ t.kind = 11) (hp : permF t = true) : t.kids.length = 1 := by
 rw [Uv, locB, Bool.and_eq_true, Bool.and_eq_true] at hp
 have hf := hp.1.2
 rcases h with h | h <;> rw [formB, h] at hf
 ·have : kidsB t [memK [30, 33]] = true := hf
  rw [kidsB, Bool.and_eq_true, decide_eq_true_eq] at this; exact this.1
 ·have : kidsB t [expK] = true := hf
  rw [kidsB, Bool.and_eq_true, decide_eq_true_eq] at this; exact this.1
theorem Vaa {t : Nd} (h : t.kind = 12 ∨ t.kind = 6) (hp : permF t = true) : t.kids.length = 2 := by
 rw [Uv, locB, Bool.and_eq_true, Bool.and_eq_true] at hp
 have hf := hp.1.2
 rcases h with h | h <;> rw [formB, h] at hf
 ·have : kidsB t [expK, expK] = true := hf
  rw [kidsB, Bool.and_eq_true, decide_eq_true_eq] at this; exact this.1
 ·have : kidsB t [typK, fun k => expK k || memK [9] k] = true := hf
  rw [kidsB, Bool.and_eq_true, decide_eq_true_eq] at this; exact this.1
theorem Xzd {a b c : Bool} (h : a = true → b = true) : (a && c) = ((b && c) && a) := by revert h; cases a <;> cases b <;> cases c <;> simp
theorem Umc (t : Nd) : Qva t = commF t := by
 rw [Qva, commF, Vra, stmtB]
 unfold commB
 by_cases h : t.kind = 16
 ·rw [h]; exact (show (permF t || false) = _ from Bool.or_false _)
 by_cases h1 : t.kind = 9
 ·rw [h1]; rfl
 by_cases h2 : t.kind = 13
 ·have hl : permF t = true → decide (((t.kids.length : Int) - 1) = 0) = true := fun hp => by rw [Ztc (.inl h2) hp]; rfl
  rw [h2]; exact (show _ = ((decide (((t.kids.length : Int) - 1) = 0) && decide ((Zd t 0).kind = 33)) && permF t) from Xzd hl)
 by_cases h3 : t.kind = 12
 ·have hl : permF t = true → decide (((t.kids.length : Int) - 1) = 1) = true := fun hp => by rw [Vaa (.inl h3) hp]; rfl
  rw [h3]; exact (show _ = ((decide (((t.kids.length : Int) - 1) = 1) && decide ((Zd t 1).kind = 33)) && permF t) from Xzd hl)
 by_cases h4 : t.kind = 11
 ·have hl : permF t = true → decide (((t.kids.length : Int) - 1) = 0) = true := fun hp => by rw [Ztc (.inr h4) hp]; rfl
  rw [h4]; exact (show _ = ((decide (((t.kids.length : Int) - 1) = 0) && decide ((Zd t 0).kind = 33)) && permF t) from Xzd hl)
 simp only [anyK, Yeg h, Yeg h1, Yeg h2, Yeg h3, Yeg h4, Bool.or_false, cond_false, Bool.false_and]
def Qwa (t : Nd) : Bool := (((decide (t.kind = 23) && plainB t) && lenK t 2) && commF (Zd t 0)) && blockB (Zd t 1)
theorem Ukd (t : Nd) : Qwa t = (decide (t.kind = 23) && permF t) := by
 rw [Qwa]
 by_cases h : t.kind = 23
 ·rw [Uv, locB, textB', formB, h]
  refine Eq.trans (b := ((plainB t && ((lenK t 2 && commB (Zd t 0)) && memK [10] (Zd t 1).kind)) && t.kids.all permF)) ?_ rfl
  rw [Zia, show ((plainB t && ((lenK t 2 && commB (Zd t 0)) && decide ((Zd t 1).kind = 10))) && t.kids.all permF) = ((plainB t && (commB (Zd t 0) && decide ((Zd t 1).kind = 10))) && (lenK t 2 && t.kids.all permF)) by ac_rfl, Utf, commF, blockB]
  show (((plainB t && lenK t 2) && _) && _) = _
  ac_rfl
 ·rw [Yeg h]; rfl
def refSelect (t : Nd) : Bool := t.kids.all Qwa && plainB t
theorem Jnb {t : Nd} (h : t.kind = 22) : refSelect t = permF t := by
 rw [Uv, locB, textB', formB, h]
 refine Eq.trans (b := ((plainB t && everyB t (memK [23])) && t.kids.all permF)) ?_ rfl
 rw [Bool.and_assoc, Zmb, refSelect, Bool.and_comm]
 congr 2
 funext k
 rw [Ukd, Zia]
def refStmt (t : Nd) : Bool :=
 bif decide (t.kind = 6) then varB t
 else bif decide (t.kind = 10) then blockB t
 else bif decide (t.kind = 18) then ifB t
 else bif decide (t.kind = 22) then permF t
 else bif decide (t.kind = 11) then (nameB t.text && lenK t 1) && exprB (Zd t 0)
 else bif anyK [12, 16] t.kind then (plainB t && lenK t 2) && t.kids.all exprB
 else bif decide (t.kind = 13) then (plainB t && lenK t 1) && (kindB (Zd t 0) 30 || kindB (Zd t 0) 33)
 else bif anyK [14, 15] t.kind then (plainB t && lenK t 1) && kindB (Zd t 0) 30
 else bif anyK [17, 21] t.kind then (plainB t && lenK t 1) && exprB (Zd t 0)
 else bif decide (t.kind = 20) then (plainB t && decide ((t.kids.length : Int) ≤ 1)) && t.kids.all exprB
 else bif decide (t.kind = 19) then ((plainB t && lenK t 2) && (noneB (Zd t 0) || exprB (Zd t 0))) && blockB (Zd t 1)
 else false
theorem Unc (t : Nd) : kindB t 30 = (memK [30] t.kind && permF t) := by
 rw [kindB, Zia, exprB]
 by_cases h : t.kind = 30
 ·rw [h]; rfl
 ·rw [Yeg h]; rfl
theorem Jxe (t : Nd) : kindB t 33 = (decide (t.kind = 33) && permF t) := by
 rw [kindB, exprB]
 by_cases h : t.kind = 33
 ·rw [h]; rfl
 ·rw [Yeg h]; rfl
theorem Jye (t : Nd) : (kindB t 30 || kindB t 33) = (memK [30, 33] t.kind && permF t) := by
 rw [Unc, Jxe, Xxd, Zia]; congr 1; simp [memK, Bool.or_comm]
theorem Wvf {t : Nd} : (decide ((t.kids.length : Int) ≤ 1) && t.kids.all exprB) = ((lenK t 0 || kidsB t [expK]) && t.kids.all permF) := by
 by_cases h : t.kids.length = 0
 ·rw [List.length_eq_zero_iff.1 h, show lenK t 0 = true by rw [lenK, decide_eq_true_eq]; omega]; rfl
 by_cases h1 : t.kids.length = 1
 ·rw [show lenK t 0 = false from Wqb 0 h, Bool.false_or, Zqe, show decide ((t.kids.length : Int) ≤ 1) = lenK t 1 by rw [lenK, decide_eq_decide]; omega, all_1]; rfl
 ·rw [show lenK t 0 = false from Wqb 0 h, Wfc h1, Yeg (by omega)]; rfl
theorem Jh (t : Nd) : refStmt t = stmtB t := by
 rw [stmtB]
 by_cases h : t.kind = 6
 ·rw [refStmt, varB, h]; rfl
 by_cases h1 : t.kind = 10
 ·rw [refStmt, blockB, h1]; rfl
 by_cases h2 : t.kind = 18
 ·rw [refStmt, ifB, h2]; rfl
 by_cases h3 : t.kind = 22
 ·rw [refStmt, h3]; rfl
 rw [Uv, locB]
 unfold refStmt textB' formB
 by_cases h4 : t.kind = 11
 ·rw [h4]; exact fl1
 by_cases h5 : t.kind = 12
 ·rw [h5]; exact fl2
 by_cases h6 : t.kind = 16
 ·rw [h6]; exact fl2
 by_cases h7 : t.kind = 13
 ·rw [h7]; refine Eq.trans ?_ (fl1 (X := plainB t) (q := memK [30, 33])); rw [← Jye]; rfl
 by_cases h8 : t.kind = 14
 ·rw [h8]; refine Eq.trans ?_ (fl1 (X := plainB t) (q := memK [30])); rw [← Unc]; rfl
 by_cases h9 : t.kind = 15
 ·rw [h9]; refine Eq.trans ?_ (fl1 (X := plainB t) (q := memK [30])); rw [← Unc]; rfl
 by_cases h10 : t.kind = 17
 ·rw [h10]; exact fl1
 by_cases h11 : t.kind = 21
 ·rw [h11]; exact fl1
 by_cases h12 : t.kind = 20
 ·rw [h12]; refine Eq.trans (b := (plainB t && decide ((t.kids.length : Int) ≤ 1)) && t.kids.all exprB) rfl ?_
  rw [Bool.and_assoc, Wvf, ← Bool.and_assoc]; rfl
 by_cases h13 : t.kind = 19
 ·rw [h13]
  refine Eq.trans (b := ((plainB t && lenK t 2) && (noneB (Zd t 0) || exprB (Zd t 0))) && blockB (Zd t 1)) J (Eq.trans (b := ((plainB t && kidsB t [fun k => expK k || memK [9] k, memK [10]]) && t.kids.all permF)) ?_ J)
  rw [Bool.and_assoc (plainB t) (kidsB t _), Xvd, Zia, Zia, Vra, show exprB (Zd t 0) = (expK (Zd t 0).kind && permF (Zd t 0)) from rfl, Xxd, blockB]
  ac_rfl
 simp only [stK, anyK, Yeg h, Yeg h1, Yeg h2, Yeg h3, Yeg h4, Yeg h5, Yeg h6, Yeg h7, Yeg h8, Yeg h9, Yeg h10, Yeg h11, Yeg h12, Yeg h13, Bool.or_false, cond_false, Bool.false_and]
structure ROk (t : Nd) : Prop where
  ex : ∀ (p : Option Addr) (c : Nat) (D : Nat → Prop) (w : World), Kd w D t.kids (.slice p t.kids.length c) → Ret PP Umb #[ndV t (.slice p t.kids.length c)] w fun r w' => r = .bool (exprB t) ∧ G w w'
  bl : ∀ (p : Option Addr) (c : Nat) (D : Nat → Prop) (w : World), Kd w D t.kids (.slice p t.kids.length c) → Ret PP Xvb #[ndV t (.slice p t.kids.length c)] w fun r w' => r = .bool (blockB t) ∧ G w w'
  st : ∀ (p : Option Addr) (c : Nat) (D : Nat → Prop) (w : World), Kd w D t.kids (.slice p t.kids.length c) → Ret PP Unb #[ndV t (.slice p t.kids.length c)] w fun r w' => r = .bool (stmtB t) ∧ G w w'
  fi : ∀ (p : Option Addr) (c : Nat) (D : Nat → Prop) (w : World), Kd w D t.kids (.slice p t.kids.length c) → Ret PP Yec #[ndV t (.slice p t.kids.length c)] w fun r w' => r = .bool (ifB t) ∧ G w w'
  cm : ∀ (p : Option Addr) (c : Nat) (D : Nat → Prop) (w : World), Kd w D t.kids (.slice p t.kids.length c) → Ret PP Uob #[ndV t (.slice p t.kids.length c)] w fun r w' => r = .bool (commF t) ∧ G w w'
def Blw (t : Nd) : Prop := ∀ k, count k < count t → ROk k
theorem Blw.kid {t : Nd} (ih : Blw t) {i : Nat} (h : i < t.kids.length) : ROk (Zd t i) := by
  refine ih _ ?_
  rw [Wm h]
  have := Zma (List.getElem_mem h); omega
theorem Uvb {w : World} {D : Nat → Prop} {t : Nd} {p : Option Addr} {c : Nat} (hk : Kd w D t.kids (.slice p t.kids.length c)) (ih : Blw t) (i : Nat) : ∃ p' c', i < t.kids.length → p = some ⟨pb p, po p, none⟩ ∧ RowAt w (pb p) (po p + i * 9) (ndCells (Zd t i) (.slice p' (Zd t i).kids.length c')) ∧ Kd w D (Zd t i).kids (.slice p' (Zd t i).kids.length c') ∧ ROk (Zd t i) := by
  obtain ⟨p', c', h⟩ := Vka hk i
  exact ⟨p', c', fun hi => ⟨(h hi).1, (h hi).2.1, (h hi).2.2, ih.kid hi⟩⟩
theorem Vkb (t : Nd) (p : Option Addr) (c : Nat) (w : World) : Ret PP Qyc #[ndV t (.slice p t.kids.length c)] w fun r w' => r = .bool (noneB t) ∧ G w w' := by
  have g := G.refl w
  refine Yp (m := 17) Xbc J J [(0, True, _)] (Za J (Zj _)) ?_
  refine Ze (Zg (Wq J (Zk J) J ?_))
  intro b1 w1 N1
  have l1 := N1.ge g
  have g := g.trans N1.g
  have E := (Wo _).new N1
  refine Zp J (Zb (kq (Ze (Zg (Zx Yd J (Yg Zu J (E.g0.at_ J) (Xt J J (Zt J (Zn J J J (fun _ => Zv Ym (Zk J)) (Yj J J J (Ye Yr (Zq J id) (fun _ => E.g0.at_ J)) (Zn J J J (fun _ => Yya (Zq J id) Xy) (Yi J (fun _ => Zz (Zk J) (Zq J id)) (Zt J (Zn J J J (fun _ => Zv Zi (Zk J)) (Yj J J J (Ye Zh (Zq J id) (fun _ => E.g0.at_ J)) (Zn J J J (fun _ => Zea Zf (Zq J id)) (?_)))))))))))))))))
  refine Zn J J J (fun _ => Vt (Zq J id) Xy) (Yi J (fun _ => Zz (Zk J) (Zq J id)) (Zp J (Zb (kq (Zr (Yx J J ?_))))))
  exact ⟨rfl, g⟩
theorem Wrb (l : List Nd) (p : Option Addr) (c : Nat) (D : Nat → Prop) (w : World) (hk : Kd w D l (.slice p l.length c)) (hr : ∀ k ∈ l, ROk k) (hln : l.length ≤ 1000000) : Ret PP Qbb #[.slice p l.length c] w fun r w' => r = .bool (l.all exprB) ∧ G w w' := by
  have g := G.refl w
  obtain ⟨p', c', hpe, _, hks⟩ := hk
  injection hpe with hpe _ hce
  subst hpe hce
  refine Yp (m := 16) Xzb J J [(0, True, _)] (Za J (Zj _)) ?_
  refine Ze (Zg (Zp J (Zb (kq (Ze (Ze (Zg (Zp J (Zb (kq (Yu (Qq (fun (i : Nat) u1 => (i ≤ l.length ∧ ∀ j, (h : j < l.length) → j < i → exprB l[j] = true) ∧ G w u1) [(0, True, _)] (fun (i : Nat) => [(3, True, .int .i64 i)]) (fun (i : Nat) => l.length - i) (0) ⟨⟨Nat.zero_le _, fun j _ hj => absurd hj (Nat.not_lt_zero j)⟩, G.refl _⟩ (Za J (Za J (Zj _))) ?_))))))))))))
  rintro i u1 ⟨hI1, gl1⟩
  have g := g.trans gl1
  refine Ze (Ze (Zg (Zt J (Zt J (Qu Zf J (Zfa J J (Zb (kq (Yv J (fun h1 => ?_) (fun h1 => ?_))))))))))
  · replace h1 : i < l.length := by simp only [decide_eq_true_eq] at h1; omega
    obtain ⟨b, o, rfl, hD, xs, hR, hX⟩ := hks (by omega)
    obtain ⟨p', c', hcell, hkid⟩ := Qta hR hX h1
    refine Yc (kq (Ze (Yu (Ze (Zg (Zt J (Zt J (Jta Zf J J (by omega) (Yk Zc J J (hcell.grow g) (Xk J (Zo Jd Yo (aqc J aq0) J) ((hr _ (List.getElem_mem h1)).ex _ _ D _ (hkid.grow g)) (fun w14 g14 => ?_)))))))))))
    have g := g.trans g14
    have gl1 := gl1.trans (g14)
    refine Wia J (Zb (kq (Yv J (fun h2 => ?_) (fun h2 => ?_))))
    · (try simp only [Xq] at h2)
      refine Ze (Zg (Zp J (Zb (kq (Zr (Yx J J ?_))))))
      refine ⟨Ygg ?_, g⟩
      rw [eq_comm, List.all_eq_false]
      exact ⟨_, List.getElem_mem h1, by simpa using h2⟩
    refine Yc (kq (Zg (Zt J (Qv J J (by omega) (Zp J (Wh [(3, _, _), (0, _, _)] (Za J (Za J (Zj _))) (Zb (fun a ha => ?_))))))))
    refine ⟨i + 1, ha, ⟨⟨h1, fun j h hj => ?_⟩, gl1⟩, by omega⟩
    by_cases e : j = i
    · subst e; simpa using h2
    · exact hI1.2 j h (by omega)
  refine Vq J (kq (Ze (Zg (Zp J (Zb (kq (Zr (Yx J J ?_))))))))
  refine ⟨Ygg ?_, g⟩
  rw [eq_comm, List.all_eq_true]
  intro x hx
  obtain ⟨j, hj, rfl⟩ := List.getElem_of_mem hx
  exact hI1.2 j hj (by simp only [decide_eq_false_iff_not] at h1; omega)
theorem Wad (t : Nd) (n : Int) (p : Option Addr) (c : Nat) (D : Nat → Prop) (w : World) (hk : Kd w D t.kids (.slice p t.kids.length c)) (h : ROk t) : Ret PP Vqd #[ndV t (.slice p t.kids.length c), .int .i64 n] w fun r w' => r = .bool (kindB t n) ∧ G w w' := by
  have g := G.refl w
  refine Yp (m := 13) Jdc J J [(0, True, _), (1, True, _)] (Za J (Za J (Zj _))) ?_
  refine Ze (Zg (Wq J (Zk J) J ?_))
  intro b2 w2 N2
  have l2 := N2.ge g
  have g := g.trans N2.g
  have E := (Wo _).new N2
  refine Zp J (Zb (kq (Ze (Zg (Zx Yd J (Yg Zu J (E.g0.at_ J) (Zt J (Xt J J (Zt J (Yj J J J (Xd Zc (Zk J) J (fun _ => E.g0.row)) (We J J J (fun _ => (Zo Jd Yo (Xf (Zq J id) (Xw)) J)) (fun hc => h.ex _ _ D _ (hk.grow g)) (fun w11 g11 => ?_))))))))))))
  have g := g.trans g11
  replace E := E.grow g11
  refine Yi J (fun _ => Zz (Zk J) (Zq J id)) (Zp J (Zb (kq (Zr (Yx J J ?_)))))
  exact ⟨rfl, g⟩
theorem Vqe (t : Nd) (p : Option Addr) (c : Nat) (D : Nat → Prop) (w : World) (hk : Kd w D t.kids (.slice p t.kids.length c)) (ih : Blw t) (hln : t.kids.length ≤ 1000000) : Ret PP Umb #[ndV t (.slice p t.kids.length c)] w fun r w' => r = .bool (exprB t) ∧ G w w' := by
  rw [← Zja]
  have g := G.refl w
  obtain ⟨p0, c0, h0x⟩ := Uvb hk ih 0
  have hr : ∀ k ∈ t.kids, ROk k := fun k hk => ih k (Zma hk)
  refine Yp (m := 165) Xec J J [(0, True, _)] (Za J (Zj _)) ?_
  refine Ze (Zg (Wq J (Zk J) J ?_))
  intro b1 w1 N1
  have l1 := N1.ge g
  have g := g.trans N1.g
  have E := (Wo _).new N1
  refine Zp J (Zb (kq (Ze (Zg (Zx Zi J (Yg Zh J (E.g0.at_ J) (Qu Zf J (Zp J (Zb (kq (Ze (Zg (Zx Ym J (Yg Yr J (E.g0.at_ J) (Wi J J (Zp J (Zb (kq (?_)))))))))))))))))))
  refine Ze (Ze (Zg (Zx Yd J (Yg Zu J (E.g0.at_ J) (Zb (kq (Yu (Ze (Zg (Xt J J (Zp J (Zb (kq (Yv J (fun h1 => ?_) (fun h1 => ?_)))))))))))))))
  · (try simp only [Xq] at h1)
    refine Ze (Zg (Zt J (Zt J (Zn J J J (fun _ => Yl (Zk J)) (Zn J J J (fun _ => Vt (Zq J id) Xy) (Yi J (fun _ => Zz (Zk J) (Zq J id)) (Zt J (Zn J J J (fun _ => Zv Xl (Zk J)) (Yj J J J (Ye Zu (Zq J id) (fun _ => E.g0.at_ J)) (Zn J J J (fun _ => Ugb (Zq J id) Xy) (Yi J (fun _ => Zz (Zk J) (Zq J id)) (Zp J (Zb (kq (Zr (Yx J J ?_))))))))))))))))
    refine ⟨Ygg ?_, g⟩
    unfold Jb; simp only [anyK, h1, cond_true, cond_false] <;> rfl
  refine Ze (Zg (Xt J J (Zp J (Zb (kq (Yv J (fun h2 => ?_) (fun h2 => ?_)))))))
  · (try simp only [Xq] at h2)
    refine Ze (Zg (Zt J (Zt J (Zn J J J (fun _ => Yl (Zk J)) (Zn J J J (fun _ => Vt (Zq J id) Xy) (Yi J (fun _ => Zz (Zk J) (Zq J id)) (Zt J (Zn J J J (fun _ => Zv Xl (Zk J)) (Yj J J J (Ye Zu (Zq J id) (fun _ => E.g0.at_ J)) (Zn J J J (fun _ => Vt (Zq J id) Xy) (Zn J J J (fun _ => Yl (Zq J id)) (Zn J J J (fun _ => Zv Xl (Zk J)) (Yj J J J (Ye Zu (Zq J id) (fun _ => E.g0.at_ J)) (Zn J J J (fun _ => Vt (Zq J id) Xy) (Zn J J J (fun _ => Xh (Zq J id) (Zq J id)) (?_))))))))))))))))
    refine Yi J (fun _ => Zz (Zk J) (Zq J id)) (Zp J (Zb (kq (Zr (Yx J J ?_)))))
    refine ⟨Ygg ?_, g⟩
    unfold Jb; simp only [anyK, h1, h2, cond_true, cond_false] <;> rfl
  refine Ze (Zg (Xt J J (Zp J (Zb (kq (Yv J (fun h3 => ?_) (fun h3 => ?_)))))))
  · (try simp only [Xq] at h3)
    refine Ze (Zg (Zt J (Zt J (Zn J J J (fun _ => Yl (Zk J)) (Zn J J J (fun _ => Vt (Zq J id) Xy) (Yi J (fun _ => Zz (Zk J) (Zq J id)) (Zp J (Zb (kq (Zr (Yx J J ?_)))))))))))
    refine ⟨Ygg ?_, g⟩
    unfold Jb; simp only [anyK, h1, h2, h3, cond_true, cond_false] <;> rfl
  refine Ze (Ze (Zg (Xt J J (Zp J (Zb (kq (?_)))))))
  refine' Xi [(1, _, _), (2, _, _), (3, _, _), (4, _, _), (12, _, _)] (Za J (Za J (Za J (Za J (Za J (Za J (Zj _))))))) J (fun hb4 => ?y4) (kq ?n4)
  case y4 =>
   refine Zg (Xt J J (Zp J (Wh [(49, _, _), (1, _, _), (2, _, _), (3, _, _), (4, _, _), (12, _, _)] (Za J (Za J (Za J (Za J (Za J (Za J (Zj _))))))) (?_))))
   exact Zb knr
  case n4 =>
   refine Yv J (fun h5 => ?_) (fun h5 => ?_)
   · (try simp only [Xq] at h5)
     refine Ze (Zg (Zx Ym J (Yg Yr J (E.g0.at_ J) (Xk J (Zo Zna Yo (aqc J aq0) J) (Wqa _ _) (fun w54 g54 => ?_)))))
     have g := g.trans g54
     replace E := E.grow g54
     refine Zt J (Zn J J J (fun _ => Yl (Zk J)) (Zn J J J (fun _ => Vt (Zq J id) Xy) (Yi J (fun _ => Zz (Zk J) (Zq J id)) (Zp J (Zb (kq (Zr (Yx J J ?_))))))))
     refine ⟨Ygg ?_, g⟩
     unfold Jb; simp only [anyK, h1, h2, h3, h5, cond_true, cond_false] <;> rfl
   refine Ze (Zg (Xt J J (Zp J (Zb (kq (Yv J (fun h6 => ?_) (fun h6 => ?_)))))))
   · (try simp only [Xq] at h6)
     refine Ze (Zg (Zx Ym J (Yg Yr J (E.g0.at_ J) (Xk J (Zo Zna Yo (aqc J aq0) J) (Wqa _ _) (fun w63 g63 => ?_)))))
     have g := g.trans g63
     replace E := E.grow g63
     refine Zt J (Zn J J J (fun _ => Yl (Zk J)) (Zn J J J (fun _ => Vt (Zq J id) Xy) (Yi J (fun _ => Zz (Zk J) (Zq J id)) (Zt J (Zn J J J (fun _ => Zv Zi (Zk J)) (Yj J J J (Ye Zh (Zq J id) (fun _ => E.g0.at_ J)) (Zn J J J (fun _ => Wj Zf (Zq J id) Xy (fun hc => by (have hz := hc.2; first | (unfold lenK at hz; simp at hz; omega) | (simp at hz; omega))) (fun hc => (h0x (by (have hz := hc.2; first | (unfold lenK at hz; simp at hz; omega) | (simp at hz; omega)))).1)) (Yj J J J (Xd Zc (Zq J id) J (fun hc => (h0x (by (have hz := hc.2; first | (unfold lenK at hz; simp at hz; omega) | (simp at hz; omega)))).2.1.grow g)) (We J J J (fun _ => (Zo Jd Yo (Xf (Zq J id) (Xw)) J)) (fun hc => (h0x (by (have hz := hc.2; first | (unfold lenK at hz; simp at hz; omega) | (simp at hz; omega)))).2.2.2.ex _ _ D _ ((h0x (by (have hz := hc.2; first | (unfold lenK at hz; simp at hz; omega) | (simp at hz; omega)))).2.2.1.grow g)) (fun w73 g73 => ?_))))))))))
     have g := g.trans g73
     replace E := E.grow g73
     refine Yi J (fun _ => Zz (Zk J) (Zq J id)) (Zp J (Zb (kq (Zr (Yx J J ?_)))))
     refine ⟨Ygg ?_, g⟩
     unfold Jb; simp only [anyK, h1, h2, h3, h5, h6, cond_true, cond_false] <;> rfl
   refine Ze (Zg (Xt J J (Zp J (Zb (kq (Yv J (fun h7 => ?_) (fun h7 => ?_)))))))
   · (try simp only [Xq] at h7)
     refine Ze (Zg (Zt J (Zt J (Zn J J J (fun _ => Yl (Zk J)) (Zn J J J (fun _ => Vt (Zq J id) Xy) (Yi J (fun _ => Zz (Zk J) (Zq J id)) (Zt J (Zn J J J (fun _ => Zv Zi (Zk J)) (Yj J J J (Ye Zh (Zq J id) (fun _ => E.g0.at_ J)) (We J J J (fun _ => (Zo Zha Yo (Xf (Zq J id) (Xw)) J)) (fun hc => Wrb _ _ _ D _ (hk.grow g) hr hln) (fun w85 g85 => ?_)))))))))))
     have g := g.trans g85
     replace E := E.grow g85
     refine Yi J (fun _ => Zz (Zk J) (Zq J id)) (Zp J (Zb (kq (Zr (Yx J J ?_)))))
     refine ⟨Ygg ?_, g⟩
     unfold Jb; simp only [anyK, h1, h2, h3, h5, h6, h7, cond_true, cond_false] <;> rfl
   refine Ze (Zg (Xt J J (Zp J (Zb (kq (Yv J (fun h8 => ?_) (fun h8 => ?_)))))))
   · (try simp only [Xq] at h8)
     refine Ze (Zg (Zt J (Zt J (Zn J J J (fun _ => Yl (Zk J)) (Zn J J J (fun _ => Ugb (Zq J id) Xy) (Yi J (fun _ => Zz (Zk J) (Zq J id)) (Zt J (Zn J J J (fun _ => Zv Zi (Zk J)) (Yj J J J (Ye Zh (Zq J id) (fun _ => E.g0.at_ J)) (We J J J (fun _ => (Zo Zha Yo (Xf (Zq J id) (Xw)) J)) (fun hc => Wrb _ _ _ D _ (hk.grow g) hr hln) (fun w97 g97 => ?_)))))))))))
     have g := g.trans g97
     replace E := E.grow g97
     refine Yi J (fun _ => Zz (Zk J) (Zq J id)) (Zp J (Zb (kq (Zr (Yx J J ?_)))))
     refine ⟨Ygg ?_, g⟩
     unfold Jb; simp only [anyK, h1, h2, h3, h5, h6, h7, h8, cond_true, cond_false] <;> rfl
   refine Ze (Zg (Xt J J (Zp J (Zb (kq (Yv J (fun h9 => ?_) (fun h9 => ?_)))))))
   · (try simp only [Xq] at h9)
     refine Ze (Zg (Zx Ym J (Yg Yr J (E.g0.at_ J) (Wi J J (Zt J (Zn J J J (fun _ => Zv Ym (Zk J)) (Yj J J J (Ye Yr (Zq J id) (fun _ => E.g0.at_ J)) (Zn J J J (fun _ => Yya (Zq J id) Xy) (Yi J (fun _ => Xh (Zk J) (Zq J id)) (Zt J (Zn J J J (fun _ => Yl (Zk J)) (Zn J J J (fun _ => Vt (Zq J id) Xy) (Yi J (fun _ => Zz (Zk J) (Zq J id)) (Zt J (Zn J J J (fun _ => Zv Zi (Zk J)) (?_))))))))))))))))
     refine Yj J J J (Ye Zh (Zq J id) (fun _ => E.g0.at_ J)) (Zn J J J (fun _ => Wj Zf (Zq J id) Xy (fun hc => by (have hz := hc.2; first | (unfold lenK at hz; simp at hz; omega) | (simp at hz; omega))) (fun hc => (h0x (by (have hz := hc.2; first | (unfold lenK at hz; simp at hz; omega) | (simp at hz; omega)))).1)) (Yj J J J (Xd Zc (Zq J id) J (fun hc => (h0x (by (have hz := hc.2; first | (unfold lenK at hz; simp at hz; omega) | (simp at hz; omega)))).2.1.grow g)) (We J J J (fun _ => (Zo Jd Yo (Xf (Zq J id) (Xw)) J)) (fun hc => (h0x (by (have hz := hc.2; first | (unfold lenK at hz; simp at hz; omega) | (simp at hz; omega)))).2.2.2.ex _ _ D _ ((h0x (by (have hz := hc.2; first | (unfold lenK at hz; simp at hz; omega) | (simp at hz; omega)))).2.2.1.grow g)) (fun w118 g118 => ?_))))
     have g := g.trans g118
     replace E := E.grow g118
     refine Yi J (fun _ => Zz (Zk J) (Zq J id)) (Zp J (Zb (kq (Zr (Yx J J ?_)))))
     refine ⟨Ygg ?_, g⟩
     unfold Jb; simp only [anyK, h1, h2, h3, h5, h6, h7, h8, h9, cond_true, cond_false] <;> rfl
   refine Ze (Zg (Xt J J (Zp J (Zb (kq (Yv J (fun h10 => ?_) (fun h10 => ?_)))))))
   · (try simp only [Xq] at h10)
     refine Ze (Zg (Zx Ym J (Yg Yr J (E.g0.at_ J) (Xk J (Zo Xkc Yo (aqc J aq0) J) (Jre _ _) (fun w124 g124 => ?_)))))
     have g := g.trans g124
     replace E := E.grow g124
     refine Zt J (Zn J J J (fun _ => Yl (Zk J)) (Zn J J J (fun _ => Vt (Zq J id) Xy) (Yi J (fun _ => Zz (Zk J) (Zq J id)) (Zt J (Zn J J J (fun _ => Zv Zi (Zk J)) (Yj J J J (Ye Zh (Zq J id) (fun _ => E.g0.at_ J)) (We J J J (fun _ => (Zo Zha Yo (Xf (Zq J id) (Xw)) J)) (fun hc => Wrb _ _ _ D _ (hk.grow g) hr hln) (fun w132 g132 => ?_))))))))
     have g := g.trans g132
     replace E := E.grow g132
     refine Yi J (fun _ => Zz (Zk J) (Zq J id)) (Zp J (Zb (kq (Zr (Yx J J ?_)))))
     refine ⟨Ygg ?_, g⟩
     unfold Jb; simp only [anyK, h1, h2, h3, h5, h6, h7, h8, h9, h10, cond_true, cond_false] <;> rfl
   refine Ze (Ze (Zg (Xt J J (Zp J (Zb (kq (?_)))))))
   refine' Xi [(1, _, _), (2, _, _), (3, _, _), (4, _, _), (12, _, _)] (Za J (Za J (Za J (Za J (Za J (Za J (Zj _))))))) J (fun hb11 => ?y11) (kq ?n11)
   case y11 =>
    refine Ze (Zg (Xt J J (Zp J (Zb (kq (?_))))))
    refine' Xi [(1, _, _), (2, _, _), (3, _, _), (4, _, _), (12, _, _)] (Za J (Za J (Za J (Za J (Za J (Za J (Zj _))))))) J (fun hb12 => ?y12) knr
    case y12 =>
     refine Ze (Zg (Xt J J (Zp J (Zb (kq (?_))))))
     refine' Xi [(1, _, _), (2, _, _), (3, _, _), (4, _, _), (12, _, _)] (Za J (Za J (Za J (Za J (Za J (Za J (Zj _))))))) J (fun hb13 => ?y13) knr
     case y13 =>
      refine Zg (Xt J J (Zp J (Wh [(134, _, _), (1, _, _), (2, _, _), (3, _, _), (4, _, _), (12, _, _)] (Za J (Za J (Za J (Za J (Za J (Za J (Zj _))))))) (?_))))
      exact Zb knr
   case n11 =>
    refine Yv J (fun h14 => ?_) (fun h14 => ?_)
    · (try simp only [Xq] at h14)
      refine Ze (Zg (Zt J (Zt J (Zn J J J (fun _ => Yl (Zk J)) (Zn J J J (fun _ => Vt (Zq J id) Xy) (Yi J (fun _ => Zz (Zk J) (Zq J id)) (Zt J (Zn J J J (fun _ => Zv Zi (Zk J)) (Yj J J J (Ye Zh (Zq J id) (fun _ => E.g0.at_ J)) (Zn J J J (fun _ => Wj Zf (Zq J id) Xy (fun hc => by (have hz := hc.2; first | (unfold lenK at hz; simp at hz; omega) | (simp at hz; omega))) (fun hc => (h0x (by (have hz := hc.2; first | (unfold lenK at hz; simp at hz; omega) | (simp at hz; omega)))).1)) (Yj J J J (Xd Zc (Zq J id) J (fun hc => (h0x (by (have hz := hc.2; first | (unfold lenK at hz; simp at hz; omega) | (simp at hz; omega)))).2.1.grow g)) (We J J J (fun _ => (Zo Jd Yo (Xf (Zq J id) (Xw)) J)) (fun hc => (h0x (by (have hz := hc.2; first | (unfold lenK at hz; simp at hz; omega) | (simp at hz; omega)))).2.2.2.ex _ _ D _ ((h0x (by (have hz := hc.2; first | (unfold lenK at hz; simp at hz; omega) | (simp at hz; omega)))).2.2.1.grow g)) (fun w149 g149 => ?_)))))))))))))
      have g := g.trans g149
      replace E := E.grow g149
      refine Yi J (fun _ => Zz (Zk J) (Zq J id)) (Zp J (Zb (kq (Zr (Yx J J ?_)))))
      refine ⟨Ygg ?_, g⟩
      unfold Jb; simp only [anyK, h1, h2, h3, h5, h6, h7, h8, h9, h10, h14, cond_true, cond_false] <;> rfl
    refine Ze (Zg (Xt J J (Zp J (Zb (kq (Yv J (fun h15 => ?_) (fun h15 => ?_)))))))
    · (try simp only [Xq] at h15)
      refine Ze (Zg (Zt J (Zt J (Zn J J J (fun _ => Yl (Zk J)) (Zn J J J (fun _ => Vt (Zq J id) Xy) (Yi J (fun _ => Zz (Zk J) (Zq J id)) (Zt J (Zn J J J (fun _ => Zv Zi (Zk J)) (Yj J J J (Ye Zh (Zq J id) (fun _ => E.g0.at_ J)) (Zn J J J (fun _ => Wj Zf (Zq J id) Xy (fun hc => by (have hz := hc.2; first | (unfold lenK at hz; simp at hz; omega) | (simp at hz; omega))) (fun hc => (h0x (by (have hz := hc.2; first | (unfold lenK at hz; simp at hz; omega) | (simp at hz; omega)))).1)) (Yj J J J (Xd Zc (Zq J id) J (fun hc => (h0x (by (have hz := hc.2; first | (unfold lenK at hz; simp at hz; omega) | (simp at hz; omega)))).2.1.grow g)) (We J J J (fun _ => (Zo Zga Yo (Xf (Zq J id) (Xw)) J)) (fun hc => (h0x (by (have hz := hc.2; first | (unfold lenK at hz; simp at hz; omega) | (simp at hz; omega)))).2.2.2.bl _ _ D _ ((h0x (by (have hz := hc.2; first | (unfold lenK at hz; simp at hz; omega) | (simp at hz; omega)))).2.2.1.grow g)) (fun w163 g163 => ?_)))))))))))))
      have g := g.trans g163
      replace E := E.grow g163
      refine Yi J (fun _ => Zz (Zk J) (Zq J id)) (Zp J (Zb (kq (Zr (Yx J J ?_)))))
      refine ⟨Ygg ?_, g⟩
      unfold Jb; simp only [anyK, h1, h2, h3, h5, h6, h7, h8, h9, h10, h14, h15, cond_true, cond_false] <;> rfl
    refine Yc (kq (Ze (Zg (Zp J (Zb (kq (Zr (Yx J J ?_))))))))
    refine ⟨Ygg ?_, g⟩
    unfold Jb; simp only [anyK, h1, h2, h3, h5, h6, h7, h8, h9, h10, h14, h15, cond_true, cond_false] <;> rfl
theorem Uoc (t : Nd) (p : Option Addr) (c : Nat) (D : Nat → Prop) (w : World) (hk : Kd w D t.kids (.slice p t.kids.length c)) (ih : Blw t) (hln : t.kids.length ≤ 1000000) : Ret PP Xvb #[ndV t (.slice p t.kids.length c)] w fun r w' => r = .bool (blockB t) ∧ G w w' := by
 rw [← Yic, Jmb]
 have g := G.refl w
 refine Yp (m := 26) Zac J J [(0, True, _)] (Za J (Zj _)) ?_
 refine Ze (Zg (Wq J (Zk J) J ?_))
 intro b1 w1 N1
 have l1 := N1.ge g
 have g := g.trans N1.g
 have E := (Wo _).new N1
 refine Zp J (Zb (kq (Ze (Ze (Zg (Zx Yd J (Yg Zu J (E.g0.at_ J) (Wja J J (Zt J (Zn J J J (fun _ => Zv Ym (Zk J)) (Yj J J J (Ye Yr (Zq J id) (fun _ => E.g0.at_ J)) (Zn J J J (fun _ => Jvb (Zq J id) Xy) (Yi J (fun _ => Xh (Zk J) (Zq J id)) (Zb (kq (Yv J (fun h1 => ?_) (fun h1 => ?_)))))))))))))))))
 ·replace h1 : (!decide (t.kind = 10) || !plainB t) = true := h1
  refine Ze (Zg (Zp J (Zb (kq (Zr (Yx J J ?_))))))
  refine ⟨Ygg ?_, g⟩
  rw [h1]; rfl
 replace h1 : (!decide (t.kind = 10) || !plainB t) = false := h1
 refine Yc (kq (Ze (Ze (Zg (Zp J (Zb (kq (Yu (Qq (fun (i : Nat) u1 => (i ≤ t.kids.length ∧ ∀ j, (h : j < t.kids.length) → j < i → stmtB t.kids[j] = true) ∧ G w1 u1) [(1, True, _)] (fun (i : Nat) => [(3, True, .int .i64 i)]) (fun (i : Nat) => t.kids.length - i) (0) ⟨⟨Nat.zero_le _, fun j _ hj => absurd hj (Nat.not_lt_zero j)⟩, G.refl _⟩ (Za J (Za J (Zj _))) ?_)))))))))
 rintro i u1 ⟨hI1, gl1⟩
 have g := g.trans gl1
 replace E := E.grow gl1
 refine Ze (Ze (Zg (Zt J (Zx Zi J (Yg Zh J (E.g0.at_ J) (Qu Zf J (Zfa J J (Zb (kq (Yv J (fun h2 => ?_) (fun h2 => ?_)))))))))))
 ·replace h2 : i < t.kids.length := by simp only [decide_eq_true_eq] at h2; omega
  obtain ⟨hpe, p2, c2, hcell, hkid⟩ := Xs hk h2
  have hr := ih.kid h2
  refine Yc (kq (Ze (Yu (Ze (Zg (Zx Zi J (Yg Zh J (E.g0.at_ J) (Zt J (Ve Zf J J (by omega) hpe (Yk Zc J J (hcell.grow g) (Xk J (Zo Xta Yo (aqc J aq0) J) (hr.st _ _ D _ (hkid.grow g)) (fun w24 g24 => ?_))))))))))))
  have g := g.trans g24
  have gl1 := gl1.trans (g24)
  replace E := E.grow g24
  refine Wia J (Zb (kq (Yv J (fun h3 => ?_) (fun h3 => ?_))))
  ·(try simp only [Xq] at h3)
   refine Ze (Zg (Zp J (Zb (kq (Zr (Yx J J ?_))))))
   refine ⟨Ygg ?_, g⟩
   rw [h1, cond_false, eq_comm, List.all_eq_false]
   exact ⟨_, List.getElem_mem h2, by rw [← Wm h2]; simpa using h3⟩
  refine Yc (kq (Zg (Zt J (Qv J J (by omega) (Zp J (Wh [(3, _, _), (1, _, _)] (Za J (Za J (Zj _))) (Zb (fun a ha => ?_))))))))
  refine ⟨i + 1, ha, ⟨⟨h2, fun j h hj => ?_⟩, gl1⟩, by omega⟩
  by_cases e : j = i
  ·subst e; rw [← Wm h2]; simpa using h3
  ·exact hI1.2 j h (by omega)
 refine Vq J (kq (Ze (Zg (Zp J (Zb (kq (Zr (Yx J J ?_))))))))
 refine ⟨Ygg ?_, g⟩
 rw [h1, cond_false, eq_comm, List.all_eq_true]
 intro x hx
 obtain ⟨j, hj, rfl⟩ := List.getElem_of_mem hx
 exact hI1.2 j hj (by simp only [decide_eq_false_iff_not] at h2; omega)
theorem Xne (t : Nd) (p : Option Addr) (c : Nat) (D : Nat → Prop) (w : World) (hk : Kd w D t.kids (.slice p t.kids.length c)) (ih : Blw t) : Ret PP Yec #[ndV t (.slice p t.kids.length c)] w fun r w' => r = .bool (ifB t) ∧ G w w' := by
 rw [← Ujd, Xme]
 have g := G.refl w
 refine Yp (m := 46) Jcc J J [(0, True, _)] (Za J (Zj _)) ?_
 refine Ze (Zg (Wq J (Zk J) J ?_))
 intro b1 w1 N1
 have l1 := N1.ge g
 have g := g.trans N1.g
 have E := (Wo _).new N1
 refine Zp J (Zb (kq (Ze (Ze (Zg (Zx Yd J (Yg Zu J (E.g0.at_ J) (Wja J J (Zt J (Zn J J J (fun _ => Zv Ym (Zk J)) (Yj J J J (Ye Yr (Zq J id) (fun _ => E.g0.at_ J)) (Zn J J J (fun _ => Jvb (Zq J id) Xy) (Yi J (fun _ => Xh (Zk J) (Zq J id)) (Zt J (Zn J J J (fun _ => Zv Zi (Zk J)) (Yj J J J (Ye Zh (Zq J id) (fun _ => E.g0.at_ J)) (?_)))))))))))))))))
 refine Zn J J J (fun _ => Zea Zf (Zq J id)) (Zn J J J (fun _ => Wba (Zq J id) Xy) (Yi J (fun _ => Xh (Zk J) (Zq J id)) (Zb (kq (Yv J (fun h1 => ?_) (fun h1 => ?_))))))
 ·replace h1 : ((!decide (t.kind = 18) || !plainB t) || !lenK t 3) = true := h1
  refine Ze (Zg (Zp J (Zb (kq (Zr (Yx J J ?_))))))
  refine ⟨Ygg ?_, g⟩
  rw [h1]; rfl
 replace h1 : ((!decide (t.kind = 18) || !plainB t) || !lenK t 3) = false := h1
 have hl3 : t.kids.length = 3 := by simp only [lenK, Bool.or_eq_false_iff, Bool.not_eq_false', decide_eq_true_eq] at h1; omega
 obtain ⟨hpe, p0, c0, hcell0, hkid0⟩ := Xs hk (i := 0) (by omega)
 obtain ⟨_, p1, c1, hcell1, hkid1⟩ := Xs hk (i := 1) (by omega)
 obtain ⟨_, p2, c2, hcell2, hkid2⟩ := Xs hk (i := 2) (by omega)
 have hr0 := ih.kid (i := 0) (by omega)
 have hr1 := ih.kid (i := 1) (by omega)
 have hr2 := ih.kid (i := 2) (by omega)
 refine Yc (kq (Ze (Zg (Zx Zi J (Yg Zh J (E.g0.at_ J) (Ve Zf J J (by omega) hpe (Yk Zc J J (hcell2.grow g) (Yh J Zm J ?_))))))))
 intro b3 w3 N3
 have l3 := N3.ge g
 have g := g.trans N3.g
 replace E := E.new N3
 refine Yt Zl J J J E.g0 ?_
 intro wS1 hgS1 _ BS
 replace E := E.s0 hgS1 BS
 have g := Zw g hgS1 (by omega)
 refine Zb (kq (Ze (Zg (Zx Zi J (Yg Zh J (E.g1.at_ J) (Ve Zf J J (by omega) hpe (Yk Zc J J (hcell0.grow g) (Xk J (Zo Jd Yo (aqc J aq0) J) (hr0.ex _ _ D _ (hkid0.grow g)) (fun w26 g26 => ?_)))))))))
 have g := g.trans g26
 replace E := E.grow g26
 refine Zt J (Zn J J J (fun _ => Zv Zi (Zk J)) (Yj J J J (Ye Zh (Zq J id) (fun _ => E.g1.at_ J)) (Zn J J J (fun _ => Wj Zf (Zq J id) Xy (fun _ => by omega) (fun _ => hpe)) (Yj J J J (Xd Zc (Zq J id) J (fun _ => hcell1.grow g)) (We J J J (fun _ => (Zo Zga Yo (Xf (Zq J id) (Xw)) J)) (fun hc => hr1.bl _ _ D _ (hkid1.grow g)) (fun w32 g32 => ?_))))))
 have g := g.trans g32
 replace E := E.grow g32
 refine Yi J (fun _ => Zz (Zk J) (Zq J id)) (Zt J (Yj J J J (Xd Zc (Zk J) J (fun _ => E.g0.row)) (We J J J (fun _ => (Zo Zga Yo (Xf (Zq J id) (Xw)) J)) (fun hc => hr2.bl _ _ D _ (hkid2.grow g)) (fun w36 g36 => ?_))))
 have g := g.trans g36
 replace E := E.grow g36
 refine Zn J J J (fun _ => Yl (Zq J id)) (Yj J J J (Xd Zc (Zk J) J (fun _ => E.g0.row)) (We J J J (fun _ => (Zo Yfc Yo (Xf (Zq J id) (Xw)) J)) (fun hc => hr2.fi _ _ D _ (hkid2.grow g)) (fun w39 g39 => ?_)))
 have g := g.trans g39
 replace E := E.grow g39
 refine Zn J J J (fun _ => Xh (Zq J id) (Zq J id)) (Zn J J J (fun _ => Yl (Zq J id)) (Yj J J J (Xd Zc (Zk J) J (fun _ => E.g0.row)) (We J J J (fun _ => (Zo Yua Yo (Xf (Zq J id) (Xw)) J)) (fun hc => Vkb _ _ _ _) (fun w43 g43 => ?_))))
 have g := g.trans g43
 replace E := E.grow g43
 refine Zn J J J (fun _ => Xh (Zq J id) (Zq J id)) (Yi J (fun _ => Zz (Zk J) (Zq J id)) (Zp J (Zb (kq (Zr (Yx J J ?_))))))
 refine ⟨Ygg ?_, g⟩
 rw [h1]; rfl
theorem Uld (t : Nd) (p : Option Addr) (c : Nat) (D : Nat → Prop) (w : World) (hk : Kd w D t.kids (.slice p t.kids.length c)) (ih : Blw t) : Ret PP Xbd #[ndV t (.slice p t.kids.length c)] w fun r w' => r = .bool (varB t) ∧ G w w' := by
 rw [← Zjd, refVar]
 have g := G.refl w
 obtain ⟨p0, c0, h0x⟩ := Uvb hk ih 0
 obtain ⟨p1, c1, h1x⟩ := Uvb hk ih 1
 refine Yp (m := 38) Vlc J J [(0, True, _)] (Za J (Zj _)) ?_
 refine Ze (Zg (Wq J (Zk J) J ?_))
 intro b1 w1 N1
 have l1 := N1.ge g
 have g := g.trans N1.g
 have E := (Wo _).new N1
 refine Zp J (Zb (kq (Ze (Zg (Zx Yd J (Yg Zu J (E.g0.at_ J) (Xt J J (Zt J (Zn J J J (fun _ => Zv Ym (Zk J)) (Yj J J J (Ye Yr (Zq J id) (fun _ => E.g0.at_ J)) (We J J J (fun _ => (Zo Zna Yo (Xf (Zq J id) (Xw)) J)) (fun hc => Wqa _ _) (fun w9 g9 => ?_))))))))))))
 have g := g.trans g9
 replace E := E.grow g9
 refine Yi J (fun _ => Zz (Zk J) (Zq J id)) (Zt J (Zn J J J (fun _ => Zv Zi (Zk J)) (Yj J J J (Ye Zh (Zq J id) (fun _ => E.g0.at_ J)) (Zn J J J (fun _ => Zea Zf (Zq J id)) (Zn J J J (fun _ => Vt (Zq J id) Xy) (Yi J (fun _ => Zz (Zk J) (Zq J id)) (Zt J (Zn J J J (fun _ => Zv Zi (Zk J)) (Yj J J J (Ye Zh (Zq J id) (fun _ => E.g0.at_ J)) (Zn J J J (fun _ => Wj Zf (Zq J id) Xy (fun hc => by (have hz := hc.2; first | (unfold lenK at hz; simp at hz; omega) | (simp at hz; omega))) (fun hc => (h0x (by (have hz := hc.2; first | (unfold lenK at hz; simp at hz; omega) | (simp at hz; omega)))).1)) (Yj J J J (Xd Zc (Zq J id) J (fun hc => (h0x (by (have hz := hc.2; first | (unfold lenK at hz; simp at hz; omega) | (simp at hz; omega)))).2.1.grow g)) (We J J J (fun _ => (Zo Vja Yo (Xf (Zq J id) (Xw)) J)) (fun hc => Vib _ _ _ _) (fun w22 g22 => ?_)))))))))))))
 have g := g.trans g22
 replace E := E.grow g22
 refine Yi J (fun _ => Zz (Zk J) (Zq J id)) (Zt J (Zn J J J (fun _ => Zv Zi (Zk J)) (Yj J J J (Ye Zh (Zq J id) (fun _ => E.g0.at_ J)) (Zn J J J (fun _ => Wj Zf (Zq J id) Xy (fun hc => by (have hz := hc.2; first | (unfold lenK at hz; simp at hz; omega) | (simp at hz; omega))) (fun hc => (h1x (by (have hz := hc.2; first | (unfold lenK at hz; simp at hz; omega) | (simp at hz; omega)))).1)) (Yj J J J (Xd Zc (Zq J id) J (fun hc => (h1x (by (have hz := hc.2; first | (unfold lenK at hz; simp at hz; omega) | (simp at hz; omega)))).2.1.grow g)) (We J J J (fun _ => (Zo Yua Yo (Xf (Zq J id) (Xw)) J)) (fun hc => Vkb _ _ _ _) (fun w29 g29 => ?_)))))))
 have g := g.trans g29
 replace E := E.grow g29
 refine Zn J J J (fun _ => Yl (Zq J id)) (Zn J J J (fun _ => Zv Zi (Zk J)) (Yj J J J (Ye Zh (Zq J id) (fun _ => E.g0.at_ J)) (Zn J J J (fun _ => Wj Zf (Zq J id) Xy (fun hc => by (have hz := hc.1.2; first | (unfold lenK at hz; simp at hz; omega) | (simp at hz; omega))) (fun hc => (h1x (by (have hz := hc.1.2; first | (unfold lenK at hz; simp at hz; omega) | (simp at hz; omega)))).1)) (Yj J J J (Xd Zc (Zq J id) J (fun hc => (h1x (by (have hz := hc.1.2; first | (unfold lenK at hz; simp at hz; omega) | (simp at hz; omega)))).2.1.grow g)) (We J J J (fun _ => (Zo Jd Yo (Xf (Zq J id) (Xw)) J)) (fun hc => (h1x (by (have hz := hc.1.2; first | (unfold lenK at hz; simp at hz; omega) | (simp at hz; omega)))).2.2.2.ex _ _ D _ ((h1x (by (have hz := hc.1.2; first | (unfold lenK at hz; simp at hz; omega) | (simp at hz; omega)))).2.2.1.grow g)) (fun w35 g35 => ?_))))))
 have g := g.trans g35
 replace E := E.grow g35
 refine Zn J J J (fun _ => Xh (Zq J id) (Zq J id)) (Yi J (fun _ => Zz (Zk J) (Zq J id)) (Zp J (Zb (kq (Zr (Yx J J ?_))))))
 exact ⟨rfl, g⟩
theorem Zqa {t : Nd} {i : Nat} (h : i < t.kids.length) : count (Zd t i) < count t := by
  rw [Wm h]; have := Zma (List.getElem_mem h); omega
theorem Zuc {t : Nd} {i : Nat} (h : ¬ i < t.kids.length) : Zd t i = nd0 := by
  simp only [Zd, List.getD_eq_getElem?_getD]; rw [List.getElem?_eq_none (by omega)]; rfl
theorem Zkd {t : Nd} (ih : Blw t) {i : Nat} (h : i < t.kids.length) : Blw (Zd t i) := fun k hk => ih k (Nat.lt_trans hk (Zqa h))
theorem Zld (t : Nd) : (!Qwa t) = ((((!decide (t.kind = 23) || !plainB t) || !lenK t 2) || !commF (Zd t 0)) || !blockB (Zd t 1)) := by
  rw [Qwa]
  cases decide (t.kind = 23) <;> cases plainB t <;> cases lenK t 2 <;> cases commF (Zd t 0) <;> cases blockB (Zd t 1) <;> rfl
theorem Umd (t : Nd) (p : Option Addr) (c : Nat) (D : Nat → Prop) (w : World) (hk : Kd w D t.kids (.slice p t.kids.length c)) (ih : Blw t) (hln : t.kids.length ≤ 1000000) : Ret PP Xlc #[ndV t (.slice p t.kids.length c)] w fun r w' => r = .bool (refSelect t) ∧ G w w' := by
  have g := G.refl w
  refine Yp (m := 50) Jeb J J [(0, True, _)] (Za J (Zj _)) ?_
  refine Ze (Zg (Wq J (Zk J) J ?_))
  intro b1 w1 N1
  have l1 := N1.ge g
  have g := g.trans N1.g
  have E := (Wo _).new N1
  refine Zp J (Zb (kq (Ze (Ze (Zg (Zp J (Zb (kq (Yu (Qq (fun (i : Nat) u1 => (i ≤ t.kids.length ∧ ∀ j, (h : j < t.kids.length) → j < i → Qwa t.kids[j] = true) ∧ G w1 u1) [(1, True, _)] (fun (i : Nat) => [(3, True, .int .i64 i)]) (fun (i : Nat) => t.kids.length - i) (0) ⟨⟨Nat.zero_le _, fun j _ hj => absurd hj (Nat.not_lt_zero j)⟩, G.refl _⟩ (Za J (Za J (Zj _))) ?_))))))))))
  rintro i u1 ⟨hI1, gl1⟩
  have g := g.trans gl1
  replace E := E.grow gl1
  refine Ze (Ze (Zg (Zt J (Zx Zi J (Yg Zh J (E.g0.at_ J) (Qu Zf J (Zfa J J (Zb (kq (Yv J (fun h1 => ?_) (fun h1 => ?_)))))))))))
  · replace h1 : i < t.kids.length := by simp only [decide_eq_true_eq] at h1; omega
    obtain ⟨hpe, p2, c2, hcell, hkid⟩ := Xs hk h1
    obtain ⟨p3, c3, h0x⟩ := Uvb hkid (Zkd ih h1) 0
    obtain ⟨p4, c4, h1x⟩ := Uvb hkid (Zkd ih h1) 1
    refine Yc (kq (Ze (Yu (Ze (Zg (Zx Zi J (Yg Zh J (E.g0.at_ J) (Zt J (Ve Zf J J (by omega) hpe (Yk Zc J J (hcell.grow g) (Yh J Zm J ?_)))))))))))
    intro b4 w4 N4
    have l4 := N4.ge g
    have l4_gl1 := N4.ge gl1
    have g := g.trans N4.g
    have gl1 := gl1.trans (N4.g)
    replace E := E.new N4
    refine Yt Zl J J J E.g0 ?_
    intro wS1 hgS1 _ BS
    replace E := E.s0 hgS1 BS
    have g := Zw g hgS1 (by omega)
    first | replace gl1 := Zw gl1 hgS1 (by omega) | clear gl1 | skip
    refine Zb (kq (Ze (Zg (Zx Yd J (Yg Zu J (E.g0.at_ J) (Wja J J (Zt J (Zn J J J (fun _ => Zv Ym (Zk J)) (Yj J J J (Ye Yr (Zq J id) (fun _ => E.g0.at_ J)) (Zn J J J (fun _ => Jvb (Zq J id) Xy) (Yi J (fun _ => Xh (Zk J) (Zq J id)) (Zt J (Zn J J J (fun _ => Zv Zi (Zk J)) (Yj J J J (Ye Zh (Zq J id) (fun _ => E.g0.at_ J)) (Zn J J J (fun _ => Zea Zf (Zq J id)) (Zn J J J (fun _ => Wba (Zq J id) Xy) (?_)))))))))))))))))
    refine Yi J (fun _ => Xh (Zk J) (Zq J id)) (Zt J (Zn J J J (fun _ => Zv Zi (Zk J)) (Yj J J J (Ye Zh (Zq J id) (fun _ => E.g0.at_ J)) (Zn J J J (fun _ => Wj Zf (Zq J id) Xy (fun hc => by (have hz := hc.2; first | (unfold lenK at hz; simp at hz; omega) | (simp at hz; omega))) (fun hc => (h0x (by (have hz := hc.2; first | (unfold lenK at hz; simp at hz; omega) | (simp at hz; omega)))).1)) (Yj J J J (Xd Zc (Zq J id) J (fun hc => (h0x (by (have hz := hc.2; first | (unfold lenK at hz; simp at hz; omega) | (simp at hz; omega)))).2.1.grow g)) (We J J J (fun _ => (Zo Jgc Yo (Xf (Zq J id) (Xw)) J)) (fun hc => (h0x (by (have hz := hc.2; first | (unfold lenK at hz; simp at hz; omega) | (simp at hz; omega)))).2.2.2.cm _ _ D _ ((h0x (by (have hz := hc.2; first | (unfold lenK at hz; simp at hz; omega) | (simp at hz; omega)))).2.2.1.grow g)) (fun w36 g36 => ?_)))))))
    have g := g.trans g36
    have gl1 := gl1.trans (g36)
    replace E := E.grow g36
    refine Zn J J J (fun _ => Xqa (Zq J id)) (Yi J (fun _ => Xh (Zk J) (Zq J id)) (Zt J (Zn J J J (fun _ => Zv Zi (Zk J)) (Yj J J J (Ye Zh (Zq J id) (fun _ => E.g0.at_ J)) (Zn J J J (fun _ => Wj Zf (Zq J id) Xy (fun hc => by (have hz := hc.2; first | (unfold lenK at hz; simp at hz; omega) | (simp at hz; omega))) (fun hc => (h1x (by (have hz := hc.2; first | (unfold lenK at hz; simp at hz; omega) | (simp at hz; omega)))).1)) (Yj J J J (Xd Zc (Zq J id) J (fun hc => (h1x (by (have hz := hc.2; first | (unfold lenK at hz; simp at hz; omega) | (simp at hz; omega)))).2.1.grow g)) (We J J J (fun _ => (Zo Zga Yo (Xf (Zq J id) (Xw)) J)) (fun hc => (h1x (by (have hz := hc.2; first | (unfold lenK at hz; simp at hz; omega) | (simp at hz; omega)))).2.2.2.bl _ _ D _ ((h1x (by (have hz := hc.2; first | (unfold lenK at hz; simp at hz; omega) | (simp at hz; omega)))).2.2.1.grow g)) (fun w44 g44 => ?_))))))))
    have g := g.trans g44
    have gl1 := gl1.trans (g44)
    replace E := E.grow g44
    refine Zn J J J (fun _ => Xqa (Zq J id)) (Yi J (fun _ => Xh (Zk J) (Zq J id)) (Zb (kq (Yv J (fun h2 => ?_) (fun h2 => ?_)))))
    · replace h2 : Qwa (Zd t i) = false := by simpa using (Zld _).trans h2
      refine Ze (Zg (Zp J (Zb (kq (Zr (Yx J J ?_))))))
      refine ⟨Ygg ?_, g⟩
      rw [eq_comm, refSelect, show t.kids.all Qwa = false from List.all_eq_false.2 ⟨_, List.getElem_mem h1, by rw [← Wm h1, h2]; simp⟩]; rfl
    replace h2 : Qwa (Zd t i) = true := by simpa using (Zld _).trans h2
    refine Yc (kq (Zg (Zt J (Qv J J (by omega) (Zp J (Wh [(3, _, _), (1, _, _)] (Za J (Za J (Zj _))) (Zb (fun a ha => ?_))))))))
    refine ⟨i + 1, ha, ⟨⟨h1, fun j h hj => ?_⟩, gl1⟩, by omega⟩
    by_cases e : j = i
    · subst e; rw [← Wm h1]; exact h2
    · exact hI1.2 j h (by omega)
  refine Vq J (kq (Ze (Zg (Zx Ym J (Yg Yr J (E.g0.at_ J) (Wi J J (Zp J (Zb (kq (Zr (Yx J J ?_)))))))))))
  refine ⟨Ygg ?_, g⟩
  rw [eq_comm, refSelect, show t.kids.all Qwa = true from List.all_eq_true.2 fun x hx => by
    obtain ⟨j, hj, rfl⟩ := List.getElem_of_mem hx
    exact hI1.2 j hj (by simp only [decide_eq_false_iff_not] at h1; omega)]; rfl
theorem Znb (t : Nd) (p : Option Addr) (c : Nat) (D : Nat → Prop) (w : World) (hk : Kd w D t.kids (.slice p t.kids.length c)) (ih : Blw t) (hln : t.kids.length ≤ 1000000) : Ret PP Unb #[ndV t (.slice p t.kids.length c)] w fun r w' => r = .bool (stmtB t) ∧ G w w' := by
  rw [← Jh]
  have g := G.refl w
  obtain ⟨p0, c0, h0x⟩ := Uvb hk ih 0
  obtain ⟨p1, c1, h1x⟩ := Uvb hk ih 1
  have hr : ∀ k ∈ t.kids, ROk k := fun k hk => ih k (Zma hk)
  refine Yp (m := 149) Xfc J J [(0, True, _)] (Za J (Zj _)) ?_
  refine Ze (Zg (Wq J (Zk J) J ?_))
  intro b1 w1 N1
  have l1 := N1.ge g
  have g := g.trans N1.g
  have E := (Wo _).new N1
  refine Zp J (Zb (kq (Ze (Zg (Zx Zi J (Yg Zh J (E.g0.at_ J) (Qu Zf J (Zp J (Zb (kq (Ze (Zg (Zx Ym J (Yg Yr J (E.g0.at_ J) (Wi J J (Zp J (Zb (kq (?_)))))))))))))))))))
  refine Ze (Ze (Zg (Zx Yd J (Yg Zu J (E.g0.at_ J) (Zb (kq (Yu (Ze (Zg (Xt J J (Zp J (Zb (kq (Yv J (fun h1 => ?_) (fun h1 => ?_)))))))))))))))
  · (try simp only [Xq] at h1)
    refine Ze (Zg (Yk Zc J J E.g0.row (Xk J (Zo Qyb Yo (aqc J aq0) J) (Uld t _ _ D _ (hk.grow g) ih) (fun w16 g16 => ?_))))
    have g := g.trans g16
    replace E := E.grow g16
    refine Zp J (Zb (kq (Zr (Yx J J ?_))))
    refine ⟨Ygg ?_, g⟩
    unfold refStmt; simp only [anyK, h1, cond_true, cond_false] <;> rfl
  refine Ze (Zg (Xt J J (Zp J (Zb (kq (Yv J (fun h2 => ?_) (fun h2 => ?_)))))))
  · (try simp only [Xq] at h2)
    refine Ze (Zg (Yk Zc J J E.g0.row (Xk J (Zo Zga Yo (aqc J aq0) J) (Uoc t _ _ D _ (hk.grow g) ih hln) (fun w20 g20 => ?_))))
    have g := g.trans g20
    replace E := E.grow g20
    refine Zp J (Zb (kq (Zr (Yx J J ?_))))
    refine ⟨Ygg ?_, g⟩
    unfold refStmt; simp only [anyK, h1, h2, cond_true, cond_false] <;> rfl
  refine Ze (Zg (Xt J J (Zp J (Zb (kq (Yv J (fun h3 => ?_) (fun h3 => ?_)))))))
  · (try simp only [Xq] at h3)
    refine Ze (Zg (Yk Zc J J E.g0.row (Xk J (Zo Yfc Yo (aqc J aq0) J) (Xne t _ _ D _ (hk.grow g) ih) (fun w24 g24 => ?_))))
    have g := g.trans g24
    replace E := E.grow g24
    refine Zp J (Zb (kq (Zr (Yx J J ?_))))
    refine ⟨Ygg ?_, g⟩
    unfold refStmt; simp only [anyK, h1, h2, h3, cond_true, cond_false] <;> rfl
  refine Ze (Zg (Xt J J (Zp J (Zb (kq (Yv J (fun h4 => ?_) (fun h4 => ?_)))))))
  · (try simp only [Xq] at h4)
    refine Ze (Zg (Yk Zc J J E.g0.row (Xk J (Zo Xmc Yo (aqc J aq0) J) (Umd t _ _ D _ (hk.grow g) ih hln) (fun w28 g28 => ?_))))
    have g := g.trans g28
    replace E := E.grow g28
    refine Zp J (Zb (kq (Zr (Yx J J ?_))))
    refine ⟨Ygg ?_, g⟩
    rw [Jnb (by simpa using h4)]; unfold refStmt; simp only [anyK, h1, h2, h3, h4, cond_true, cond_false] <;> rfl
  refine Ze (Zg (Xt J J (Zp J (Zb (kq (Yv J (fun h5 => ?_) (fun h5 => ?_)))))))
  · (try simp only [Xq] at h5)
    refine Ze (Zg (Zx Ym J (Yg Yr J (E.g0.at_ J) (Xk J (Zo Zna Yo (aqc J aq0) J) (Wqa _ _) (fun w33 g33 => ?_)))))
    have g := g.trans g33
    replace E := E.grow g33
    refine Zt J (Zn J J J (fun _ => Yl (Zk J)) (Zn J J J (fun _ => Vt (Zq J id) Xy) (Yi J (fun _ => Zz (Zk J) (Zq J id)) (Zt J (Zn J J J (fun _ => Zv Zi (Zk J)) (Yj J J J (Ye Zh (Zq J id) (fun _ => E.g0.at_ J)) (Zn J J J (fun _ => Wj Zf (Zq J id) Xy (fun hc => by (have hz := hc.2; first | (unfold lenK at hz; simp at hz; omega) | (simp at hz; omega))) (fun hc => (h0x (by (have hz := hc.2; first | (unfold lenK at hz; simp at hz; omega) | (simp at hz; omega)))).1)) (Yj J J J (Xd Zc (Zq J id) J (fun hc => (h0x (by (have hz := hc.2; first | (unfold lenK at hz; simp at hz; omega) | (simp at hz; omega)))).2.1.grow g)) (We J J J (fun _ => (Zo Jd Yo (Xf (Zq J id) (Xw)) J)) (fun hc => (h0x (by (have hz := hc.2; first | (unfold lenK at hz; simp at hz; omega) | (simp at hz; omega)))).2.2.2.ex _ _ D _ ((h0x (by (have hz := hc.2; first | (unfold lenK at hz; simp at hz; omega) | (simp at hz; omega)))).2.2.1.grow g)) (fun w43 g43 => ?_))))))))))
    have g := g.trans g43
    replace E := E.grow g43
    refine Yi J (fun _ => Zz (Zk J) (Zq J id)) (Zp J (Zb (kq (Zr (Yx J J ?_)))))
    refine ⟨Ygg ?_, g⟩
    unfold refStmt; simp only [anyK, h1, h2, h3, h4, h5, cond_true, cond_false] <;> rfl
  refine Ze (Ze (Zg (Xt J J (Zp J (Zb (kq (?_)))))))
  refine' Xi [(1, _, _), (2, _, _), (3, _, _), (4, _, _), (12, _, _)] (Za J (Za J (Za J (Za J (Za J (Za J (Zj _))))))) J (fun hb6 => ?y6) (kq ?n6)
  case y6 =>
   refine Zg (Xt J J (Zp J (Wh [(45, _, _), (1, _, _), (2, _, _), (3, _, _), (4, _, _), (12, _, _)] (Za J (Za J (Za J (Za J (Za J (Za J (Zj _))))))) (?_))))
   exact Zb knr
  case n6 =>
   refine Yv J (fun h7 => ?_) (fun h7 => ?_)
   · (try simp only [Xq] at h7)
     refine Ze (Zg (Zt J (Zt J (Zn J J J (fun _ => Yl (Zk J)) (Zn J J J (fun _ => Vt (Zq J id) Xy) (Yi J (fun _ => Zz (Zk J) (Zq J id)) (Zt J (Zn J J J (fun _ => Zv Zi (Zk J)) (Yj J J J (Ye Zh (Zq J id) (fun _ => E.g0.at_ J)) (We J J J (fun _ => (Zo Zha Yo (Xf (Zq J id) (Xw)) J)) (fun hc => Wrb _ _ _ D _ (hk.grow g) hr hln) (fun w56 g56 => ?_)))))))))))
     have g := g.trans g56
     replace E := E.grow g56
     refine Yi J (fun _ => Zz (Zk J) (Zq J id)) (Zp J (Zb (kq (Zr (Yx J J ?_)))))
     refine ⟨Ygg ?_, g⟩
     unfold refStmt; simp only [anyK, h1, h2, h3, h4, h5, h7, cond_true, cond_false] <;> rfl
   refine Ze (Zg (Xt J J (Zp J (Zb (kq (Yv J (fun h8 => ?_) (fun h8 => ?_)))))))
   · (try simp only [Xq] at h8)
     refine Ze (Zg (Zt J (Zt J (Zn J J J (fun _ => Yl (Zk J)) (Zn J J J (fun _ => Vt (Zq J id) Xy) (Yi J (fun _ => Zz (Zk J) (Zq J id)) (Zt J (Zn J J J (fun _ => Zv Zi (Zk J)) (Yj J J J (Ye Zh (Zq J id) (fun _ => E.g0.at_ J)) (Zn J J J (fun _ => Wj Zf (Zq J id) Xy (fun hc => by (have hz := hc.2; first | (unfold lenK at hz; simp at hz; omega) | (simp at hz; omega))) (fun hc => (h0x (by (have hz := hc.2; first | (unfold lenK at hz; simp at hz; omega) | (simp at hz; omega)))).1)) (Yj J J J (Xd Zc (Zq J id) J (fun hc => (h0x (by (have hz := hc.2; first | (unfold lenK at hz; simp at hz; omega) | (simp at hz; omega)))).2.1.grow g)) (We J J J (fun _ => (Zo Wab Yo (Xf (Zq J id) (Xf Xy (Xw))) J)) (fun hc => Wad _ _ _ _ D _ ((h0x (by (have hz := hc.2; first | (unfold lenK at hz; simp at hz; omega) | (simp at hz; omega)))).2.2.1.grow g) (h0x (by (have hz := hc.2; first | (unfold lenK at hz; simp at hz; omega) | (simp at hz; omega)))).2.2.2) (fun w70 g70 => ?_)))))))))))))
     have g := g.trans g70
     replace E := E.grow g70
     refine Zn J J J (fun _ => Yl (Zq J id)) (Zn J J J (fun _ => Zv Zi (Zk J)) (Yj J J J (Ye Zh (Zq J id) (fun _ => E.g0.at_ J)) (Zn J J J (fun _ => Wj Zf (Zq J id) Xy (fun hc => by (have hz := hc.1.2; first | (unfold lenK at hz; simp at hz; omega) | (simp at hz; omega))) (fun hc => (h0x (by (have hz := hc.1.2; first | (unfold lenK at hz; simp at hz; omega) | (simp at hz; omega)))).1)) (Yj J J J (Xd Zc (Zq J id) J (fun hc => (h0x (by (have hz := hc.1.2; first | (unfold lenK at hz; simp at hz; omega) | (simp at hz; omega)))).2.1.grow g)) (We J J J (fun _ => (Zo Wab Yo (Xf (Zq J id) (Xf Xy (Xw))) J)) (fun hc => Wad _ _ _ _ D _ ((h0x (by (have hz := hc.1.2; first | (unfold lenK at hz; simp at hz; omega) | (simp at hz; omega)))).2.2.1.grow g) (h0x (by (have hz := hc.1.2; first | (unfold lenK at hz; simp at hz; omega) | (simp at hz; omega)))).2.2.2) (fun w76 g76 => ?_))))))
     have g := g.trans g76
     replace E := E.grow g76
     refine Zn J J J (fun _ => Xh (Zq J id) (Zq J id)) (Yi J (fun _ => Zz (Zk J) (Zq J id)) (Zp J (Zb (kq (Zr (Yx J J ?_))))))
     refine ⟨Ygg ?_, g⟩
     unfold refStmt; simp only [anyK, h1, h2, h3, h4, h5, h7, h8, cond_true, cond_false] <;> rfl
   refine Ze (Ze (Zg (Xt J J (Zp J (Zb (kq (?_)))))))
   refine' Xi [(1, _, _), (2, _, _), (3, _, _), (4, _, _), (12, _, _)] (Za J (Za J (Za J (Za J (Za J (Za J (Zj _))))))) J (fun hb9 => ?y9) (kq ?n9)
   case y9 =>
    refine Zg (Xt J J (Zp J (Wh [(79, _, _), (1, _, _), (2, _, _), (3, _, _), (4, _, _), (12, _, _)] (Za J (Za J (Za J (Za J (Za J (Za J (Zj _))))))) (?_))))
    exact Zb knr
   case n9 =>
    refine Yv J (fun h10 => ?_) (fun h10 => ?_)
    · (try simp only [Xq] at h10)
      refine Ze (Zg (Zt J (Zt J (Zn J J J (fun _ => Yl (Zk J)) (Zn J J J (fun _ => Vt (Zq J id) Xy) (Yi J (fun _ => Zz (Zk J) (Zq J id)) (Zt J (Zn J J J (fun _ => Zv Zi (Zk J)) (Yj J J J (Ye Zh (Zq J id) (fun _ => E.g0.at_ J)) (Zn J J J (fun _ => Wj Zf (Zq J id) Xy (fun hc => by (have hz := hc.2; first | (unfold lenK at hz; simp at hz; omega) | (simp at hz; omega))) (fun hc => (h0x (by (have hz := hc.2; first | (unfold lenK at hz; simp at hz; omega) | (simp at hz; omega)))).1)) (Yj J J J (Xd Zc (Zq J id) J (fun hc => (h0x (by (have hz := hc.2; first | (unfold lenK at hz; simp at hz; omega) | (simp at hz; omega)))).2.1.grow g)) (We J J J (fun _ => (Zo Wab Yo (Xf (Zq J id) (Xf Xy (Xw))) J)) (fun hc => Wad _ _ _ _ D _ ((h0x (by (have hz := hc.2; first | (unfold lenK at hz; simp at hz; omega) | (simp at hz; omega)))).2.2.1.grow g) (h0x (by (have hz := hc.2; first | (unfold lenK at hz; simp at hz; omega) | (simp at hz; omega)))).2.2.2) (fun w92 g92 => ?_)))))))))))))
      have g := g.trans g92
      replace E := E.grow g92
      refine Yi J (fun _ => Zz (Zk J) (Zq J id)) (Zp J (Zb (kq (Zr (Yx J J ?_)))))
      refine ⟨Ygg ?_, g⟩
      unfold refStmt; simp only [anyK, h1, h2, h3, h4, h5, h7, h8, h10, cond_true, cond_false] <;> rfl
    refine Ze (Ze (Zg (Xt J J (Zp J (Zb (kq (?_)))))))
    refine' Xi [(1, _, _), (2, _, _), (3, _, _), (4, _, _), (12, _, _)] (Za J (Za J (Za J (Za J (Za J (Za J (Zj _))))))) J (fun hb11 => ?y11) (kq ?n11)
    case y11 =>
     refine Zg (Xt J J (Zp J (Wh [(94, _, _), (1, _, _), (2, _, _), (3, _, _), (4, _, _), (12, _, _)] (Za J (Za J (Za J (Za J (Za J (Za J (Zj _))))))) (?_))))
     exact Zb knr
    case n11 =>
     refine Yv J (fun h12 => ?_) (fun h12 => ?_)
     · (try simp only [Xq] at h12)
       refine Ze (Zg (Zt J (Zt J (Zn J J J (fun _ => Yl (Zk J)) (Zn J J J (fun _ => Vt (Zq J id) Xy) (Yi J (fun _ => Zz (Zk J) (Zq J id)) (Zt J (Zn J J J (fun _ => Zv Zi (Zk J)) (Yj J J J (Ye Zh (Zq J id) (fun _ => E.g0.at_ J)) (Zn J J J (fun _ => Wj Zf (Zq J id) Xy (fun hc => by (have hz := hc.2; first | (unfold lenK at hz; simp at hz; omega) | (simp at hz; omega))) (fun hc => (h0x (by (have hz := hc.2; first | (unfold lenK at hz; simp at hz; omega) | (simp at hz; omega)))).1)) (Yj J J J (Xd Zc (Zq J id) J (fun hc => (h0x (by (have hz := hc.2; first | (unfold lenK at hz; simp at hz; omega) | (simp at hz; omega)))).2.1.grow g)) (We J J J (fun _ => (Zo Jd Yo (Xf (Zq J id) (Xw)) J)) (fun hc => (h0x (by (have hz := hc.2; first | (unfold lenK at hz; simp at hz; omega) | (simp at hz; omega)))).2.2.2.ex _ _ D _ ((h0x (by (have hz := hc.2; first | (unfold lenK at hz; simp at hz; omega) | (simp at hz; omega)))).2.2.1.grow g)) (fun w107 g107 => ?_)))))))))))))
       have g := g.trans g107
       replace E := E.grow g107
       refine Yi J (fun _ => Zz (Zk J) (Zq J id)) (Zp J (Zb (kq (Zr (Yx J J ?_)))))
       refine ⟨Ygg ?_, g⟩
       unfold refStmt; simp only [anyK, h1, h2, h3, h4, h5, h7, h8, h10, h12, cond_true, cond_false] <;> rfl
     refine Ze (Zg (Xt J J (Zp J (Zb (kq (Yv J (fun h13 => ?_) (fun h13 => ?_)))))))
     · (try simp only [Xq] at h13)
       refine Ze (Zg (Zt J (Zt J (Zn J J J (fun _ => Yl (Zk J)) (Zn J J J (fun _ => Ufb (Zq J id) Xy) (Yi J (fun _ => Zz (Zk J) (Zq J id)) (Zt J (Zn J J J (fun _ => Zv Zi (Zk J)) (Yj J J J (Ye Zh (Zq J id) (fun _ => E.g0.at_ J)) (We J J J (fun _ => (Zo Zha Yo (Xf (Zq J id) (Xw)) J)) (fun hc => Wrb _ _ _ D _ (hk.grow g) hr hln) (fun w119 g119 => ?_)))))))))))
       have g := g.trans g119
       replace E := E.grow g119
       refine Yi J (fun _ => Zz (Zk J) (Zq J id)) (Zp J (Zb (kq (Zr (Yx J J ?_)))))
       refine ⟨Ygg ?_, g⟩
       unfold refStmt; simp only [anyK, h1, h2, h3, h4, h5, h7, h8, h10, h12, h13, cond_true, cond_false] <;> rfl
     refine Ze (Zg (Xt J J (Zp J (Zb (kq (Yv J (fun h14 => ?_) (fun h14 => ?_)))))))
     · (try simp only [Xq] at h14)
       refine Ze (Zg (Zt J (Zt J (Zn J J J (fun _ => Yl (Zk J)) (Zn J J J (fun _ => Vt (Zq J id) Xy) (Yi J (fun _ => Zz (Zk J) (Zq J id)) (Zt J (Zn J J J (fun _ => Zv Zi (Zk J)) (Yj J J J (Ye Zh (Zq J id) (fun _ => E.g0.at_ J)) (Zn J J J (fun _ => Wj Zf (Zq J id) Xy (fun hc => by (have hz := hc.2; first | (unfold lenK at hz; simp at hz; omega) | (simp at hz; omega))) (fun hc => (h0x (by (have hz := hc.2; first | (unfold lenK at hz; simp at hz; omega) | (simp at hz; omega)))).1)) (Yj J J J (Xd Zc (Zq J id) J (fun hc => (h0x (by (have hz := hc.2; first | (unfold lenK at hz; simp at hz; omega) | (simp at hz; omega)))).2.1.grow g)) (We J J J (fun _ => (Zo Yua Yo (Xf (Zq J id) (Xw)) J)) (fun hc => Vkb _ _ _ _) (fun w133 g133 => ?_)))))))))))))
       have g := g.trans g133
       replace E := E.grow g133
       refine Zn J J J (fun _ => Yl (Zq J id)) (Zn J J J (fun _ => Zv Zi (Zk J)) (Yj J J J (Ye Zh (Zq J id) (fun _ => E.g0.at_ J)) (Zn J J J (fun _ => Wj Zf (Zq J id) Xy (fun hc => by (have hz := hc.1.2; first | (unfold lenK at hz; simp at hz; omega) | (simp at hz; omega))) (fun hc => (h0x (by (have hz := hc.1.2; first | (unfold lenK at hz; simp at hz; omega) | (simp at hz; omega)))).1)) (Yj J J J (Xd Zc (Zq J id) J (fun hc => (h0x (by (have hz := hc.1.2; first | (unfold lenK at hz; simp at hz; omega) | (simp at hz; omega)))).2.1.grow g)) (We J J J (fun _ => (Zo Jd Yo (Xf (Zq J id) (Xw)) J)) (fun hc => (h0x (by (have hz := hc.1.2; first | (unfold lenK at hz; simp at hz; omega) | (simp at hz; omega)))).2.2.2.ex _ _ D _ ((h0x (by (have hz := hc.1.2; first | (unfold lenK at hz; simp at hz; omega) | (simp at hz; omega)))).2.2.1.grow g)) (fun w139 g139 => ?_))))))
       have g := g.trans g139
       replace E := E.grow g139
       refine Zn J J J (fun _ => Xh (Zq J id) (Zq J id)) (Yi J (fun _ => Zz (Zk J) (Zq J id)) (Zt J (Zn J J J (fun _ => Zv Zi (Zk J)) (Yj J J J (Ye Zh (Zq J id) (fun _ => E.g0.at_ J)) (Zn J J J (fun _ => Wj Zf (Zq J id) Xy (fun hc => by (have hz := hc.2; first | (unfold lenK at hz; simp at hz; omega) | (simp at hz; omega))) (fun hc => (h1x (by (have hz := hc.2; first | (unfold lenK at hz; simp at hz; omega) | (simp at hz; omega)))).1)) (Yj J J J (Xd Zc (Zq J id) J (fun hc => (h1x (by (have hz := hc.2; first | (unfold lenK at hz; simp at hz; omega) | (simp at hz; omega)))).2.1.grow g)) (We J J J (fun _ => (Zo Zga Yo (Xf (Zq J id) (Xw)) J)) (fun hc => (h1x (by (have hz := hc.2; first | (unfold lenK at hz; simp at hz; omega) | (simp at hz; omega)))).2.2.2.bl _ _ D _ ((h1x (by (have hz := hc.2; first | (unfold lenK at hz; simp at hz; omega) | (simp at hz; omega)))).2.2.1.grow g)) (fun w147 g147 => ?_))))))))
       have g := g.trans g147
       replace E := E.grow g147
       refine Yi J (fun _ => Zz (Zk J) (Zq J id)) (Zp J (Zb (kq (Zr (Yx J J ?_)))))
       refine ⟨Ygg ?_, g⟩
       unfold refStmt; simp only [anyK, h1, h2, h3, h4, h5, h7, h8, h10, h12, h13, h14, cond_true, cond_false] <;> rfl
     refine Yc (kq (Ze (Zg (Zp J (Zb (kq (Zr (Yx J J ?_))))))))
     refine ⟨Ygg ?_, g⟩
     unfold refStmt; simp only [anyK, h1, h2, h3, h4, h5, h7, h8, h10, h12, h13, h14, cond_true, cond_false] <;> rfl
theorem Zob {t : Nd} (h : t.kind = 13 ∨ t.kind = 11) (hp : stmtB t = true) : t.kids.length = 1 := Ztc h (Bool.and_eq_true_iff.1 hp).2
theorem Upc {t : Nd} (h : t.kind = 12) (hp : stmtB t = true) : t.kids.length = 2 := Vaa (.inl h) (Bool.and_eq_true_iff.1 hp).2
theorem Vre (t : Nd) (p : Option Addr) (c : Nat) (D : Nat → Prop) (w : World) (hk : Kd w D t.kids (.slice p t.kids.length c)) (ih : Blw t) (hln : t.kids.length ≤ 1000000) : Ret PP Uob #[ndV t (.slice p t.kids.length c)] w fun r w' => r = .bool (commF t) ∧ G w w' := by
  rw [← Umc]
  have g := G.refl w
  obtain ⟨p0, c0, h0x⟩ := Uvb hk ih 0
  obtain ⟨p1, c1, h1x⟩ := Uvb hk ih 1
  refine Yp (m := 50) Xqc J J [(0, True, _)] (Za J (Zj _)) ?_
  refine Ze (Zg (Wq J (Zk J) J ?_))
  intro b1 w1 N1
  have l1 := N1.ge g
  have g := g.trans N1.g
  have E := (Wo _).new N1
  refine Zp J (Zb (kq (Ze (Ze (Zg (Zx Yd J (Yg Zu J (E.g0.at_ J) (Zb (kq (Yu (Ze (Ze (Zg (Xt J J (Zp J (Zb (kq (?_))))))))))))))))))
  refine' Xi [(1, _, _), (2, _, _), (4, _, _)] (Za J (Za J (Za J (Za J (Zj _))))) J (fun hb1 => ?y1) (kq ?n1)
  case y1 =>
   refine Zg (Xt J J (Zp J (Wh [(5, _, _), (1, _, _), (2, _, _), (4, _, _)] (Za J (Za J (Za J (Za J (Zj _))))) (?_))))
   exact Zb knr
  case n1 =>
   refine Yv J (fun h2 => ?_) (fun h2 => ?_)
   · (try simp only [Xq] at h2)
     refine Ze (Zg (Yk Zc J J E.g0.row (Xk J (Zo Xta Yo (aqc J aq0) J) (Znb t _ _ D _ (hk.grow g) ih hln) (fun w9 g9 => ?_))))
     have g := g.trans g9
     replace E := E.grow g9
     refine Zt J (Yj J J J (Xd Zc (Zk J) J (fun _ => E.g0.row)) (We J J J (fun _ => (Zo Yua Yo (Xf (Zq J id) (Xw)) J)) (fun hc => Vkb _ _ _ _) (fun w12 g12 => ?_)))
     have g := g.trans g12
     replace E := E.grow g12
     refine Yi J (fun _ => Xh (Zk J) (Zq J id)) (Zp J (Zb (kq (Zr (Yx J J ?_)))))
     refine ⟨Ygg ?_, g⟩
     unfold Qva; simp only [anyK, h2, cond_true, cond_false] <;> rfl
   refine Ze (Zg (Xt J J (Zp J (Zb (kq (Yv J (fun h3 => ?_) (fun h3 => ?_)))))))
   · have hk3 : t.kind = 13 := by simpa using h3
     refine Ze (Zg (Yk Zc J J E.g0.row (Xk J (Zo Xta Yo (aqc J aq0) J) (Znb t _ _ D _ (hk.grow g) ih hln) (fun w17 g17 => ?_))))
     have g := g.trans g17
     replace E := E.grow g17
     refine Zt J (Zn J J J (fun _ => Zv Zi (Zk J)) (Yj J J J (Ye Zh (Zq J id) (fun _ => E.g0.at_ J)) (Zn J J J (fun _ => Wj Zf (Zq J id) Xy (fun hc => by have := Zob (.inl hk3) hc.2; omega) (fun hc => (h0x (by have := Zob (.inl hk3) hc.2; omega)).1)) (Zn J J J (fun _ => Zv Yd (Zq J id)) (Yj J J J (Ye Zu (Zq J id) (fun hc => ((h0x (by have := Zob (.inl hk3) hc.2; omega)).2.1.grow g) 0 _ J)) (Zn J J J (fun _ => Vt (Zq J id) Xy) (Yi J (fun _ => Zz (Zk J) (Zq J id)) (Zp J (Zb (kq (Zr (Yx J J ?_))))))))))))
     refine ⟨Ygg ?_, g⟩
     unfold Qva; simp only [anyK, h2, h3, cond_true, cond_false] <;> rfl
   refine Ze (Zg (Xt J J (Zp J (Zb (kq (Yv J (fun h4 => ?_) (fun h4 => ?_)))))))
   · have hk4 : t.kind = 12 := by simpa using h4
     refine Ze (Zg (Yk Zc J J E.g0.row (Xk J (Zo Xta Yo (aqc J aq0) J) (Znb t _ _ D _ (hk.grow g) ih hln) (fun w29 g29 => ?_))))
     have g := g.trans g29
     replace E := E.grow g29
     refine Zt J (Zn J J J (fun _ => Zv Zi (Zk J)) (Yj J J J (Ye Zh (Zq J id) (fun _ => E.g0.at_ J)) (Zn J J J (fun _ => Wj Zf (Zq J id) Xy (fun hc => by have := Upc hk4 hc.2; omega) (fun hc => (h1x (by have := Upc hk4 hc.2; omega)).1)) (Zn J J J (fun _ => Zv Yd (Zq J id)) (Yj J J J (Ye Zu (Zq J id) (fun hc => ((h1x (by have := Upc hk4 hc.2; omega)).2.1.grow g) 0 _ J)) (Zn J J J (fun _ => Vt (Zq J id) Xy) (Yi J (fun _ => Zz (Zk J) (Zq J id)) (Zp J (Zb (kq (Zr (Yx J J ?_))))))))))))
     refine ⟨Ygg ?_, g⟩
     unfold Qva; simp only [anyK, h2, h3, h4, cond_true, cond_false] <;> rfl
   refine Ze (Zg (Xt J J (Zp J (Zb (kq (Yv J (fun h5 => ?_) (fun h5 => ?_)))))))
   · have hk5 : t.kind = 11 := by simpa using h5
     refine Ze (Zg (Yk Zc J J E.g0.row (Xk J (Zo Xta Yo (aqc J aq0) J) (Znb t _ _ D _ (hk.grow g) ih hln) (fun w41 g41 => ?_))))
     have g := g.trans g41
     replace E := E.grow g41
     refine Zt J (Zn J J J (fun _ => Zv Zi (Zk J)) (Yj J J J (Ye Zh (Zq J id) (fun _ => E.g0.at_ J)) (Zn J J J (fun _ => Wj Zf (Zq J id) Xy (fun hc => by have := Zob (.inr hk5) hc.2; omega) (fun hc => (h0x (by have := Zob (.inr hk5) hc.2; omega)).1)) (Zn J J J (fun _ => Zv Yd (Zq J id)) (Yj J J J (Ye Zu (Zq J id) (fun hc => ((h0x (by have := Zob (.inr hk5) hc.2; omega)).2.1.grow g) 0 _ J)) (Zn J J J (fun _ => Vt (Zq J id) Xy) (Yi J (fun _ => Zz (Zk J) (Zq J id)) (Zp J (Zb (kq (Zr (Yx J J ?_))))))))))))
     refine ⟨Ygg ?_, g⟩
     unfold Qva; simp only [anyK, h2, h3, h4, h5, cond_true, cond_false] <;> rfl
   refine Yc (kq (Ze (Zg (Zp J (Zb (kq (Zr (Yx J J ?_))))))))
   refine ⟨Ygg ?_, g⟩
   unfold Qva; simp only [anyK, h2, h3, h4, h5, cond_true, cond_false] <;> rfl
theorem Wwf : ∀ n t, count t ≤ n → n ≤ 1000000 → ROk t := by
  intro n
  induction n with
  | zero => intro t h; have := Jo t; omega
  | succ n ihn =>
    intro t h hn
    have ih : Blw t := fun k hk => ihn k (by omega) (by omega)
    have hln : t.kids.length ≤ 1000000 := by have := Qt t; omega
    exact ⟨fun p c D w hk => Vqe t p c D w hk ih hln, fun p c D w hk => Uoc t p c D w hk ih hln, fun p c D w hk => Znb t p c D w hk ih hln, fun p c D w hk => Xne t p c D w hk ih, fun p c D w hk => Vre t p c D w hk ih hln⟩
theorem rok (t : Nd) (h : count t ≤ 1000000) : ROk t := Wwf _ t h (Nat.le_refl _)
section
variable {P : Program} {n : Nat} {σ : List Ent} {c : Prop} {wb : World} {ty : TypeId}
theorem Jif {x y : Operand} {k k' : IntKind} {a b : Int} {ts : Array TypeId} (h : Ev n σ c x (.int k a)) (h' : Ev n σ c y (.int k' b)) : Rd P n σ c wb (.call { callee := .builtin .max, args := #[x, y], argTypes := ts }) ty (.int k (if b > a then b else a)) := fun d pos after gd a ha hc w1 _ => by
 simp [execOp, resolve, invoke, builtin, h a ha hc, h' a ha hc, Builtin.max_, Builtin.max2]
end
theorem Wxf (a b : Nat) : (if (b : Int) > a then (b : Int) else a) = ((max a b : Nat) : Int) := by split <;> omega
def fieldB (t : Nd) : Bool := decide (t.kind = 3) && permF t
theorem Uqc (t : Nd) : (!fieldB t) = (((!decide (t.kind = 3) || !nameB t.text) || !lenK t 1) || !isTypeB (Zd t 0)) := by
 have e : fieldB t = (((decide (t.kind = 3) && nameB t.text) && lenK t 1) && isTypeB (Zd t 0)) := by
  rw [fieldB]
  by_cases h : t.kind = 3
  ·rw [Uv, locB, textB', formB, h, Qia]; exact congrArg (true && ·) (fl1 (X := nameB t.text) (q := typK)).symm |>.trans (by rfl)
  ·rw [Yeg h]; rfl
 rw [e]
 cases decide (t.kind = 3) <;> cases nameB t.text <;> cases lenK t 1 <;> cases isTypeB (Zd t 0) <;> rfl
def declB (t : Nd) : Bool := (memK [2, 6, 4] t.kind && permF t) && !fileVarB t
def Ypb (t : Nd) : Bool :=
 bif decide (t.kind = 2) then nameB t.text && t.kids.all fieldB
 else bif decide (t.kind = 6) then varB t && noneB (Zd t 1)
 else bif decide (t.kind = 4) then
  bif !nameB t.text || !lenK t 3 then false else (((decide ((Zd t 0).kind = 5) && plainB (Zd t 0)) && (Zd t 0).kids.all fieldB) && (noneB (Zd t 1) || isTypeB (Zd t 1))) && blockB (Zd t 2)
 else false
theorem Zmd {t : Nd} : (everyB t (memK [3]) && t.kids.all permF) = t.kids.all fieldB := by
 rw [Zmb]; congr 1; funext k; rw [Zia]; rfl
theorem Vse (t : Nd) : ((decide (t.kind = 5) && plainB t) && t.kids.all fieldB) = (memK [5] t.kind && permF t) := by
 rw [Zia]
 by_cases h : t.kind = 5
 ·rw [Uv t, locB, textB', formB, h, Bool.and_assoc]; exact congrArg (true && ·) (by rw [← Zmd, ← Bool.and_assoc]; rfl)
 ·rw [Yeg h]; rfl
theorem Zre (t : Nd) : Ypb t = declB t := by
 rw [Ypb, declB]
 by_cases h : t.kind = 2
 ·rw [Uv t, locB, textB', formB, fileVarB, h]
  refine Eq.trans (b := (nameB t.text && everyB t (memK [3])) && t.kids.all permF) ?_ (Eq.trans (Bool.and_true _).symm J)
  rw [Bool.and_assoc (nameB t.text) (everyB t _), Zmd]; rfl
 by_cases h1 : t.kind = 6
 ·rw [varB, fileVarB, h1]
  refine Eq.trans (b := permF t && noneB (Zd t 1)) J (Eq.trans (b := permF t && !(!lenK t 2 || !decide ((Zd t 1).kind = 9))) ?_ J)
  rw [Vra]
  cases hp : permF t with
  | false => rfl
  | true =>
   have hl := Vaa (.inr h1) hp
   have hk : permF (Zd t 1) = true := by
    rw [Uv, Bool.and_eq_true, List.all_eq_true] at hp
    rw [Wm (by omega)]; exact hp.2 _ (List.getElem_mem _)
   rw [hk, show lenK t 2 = true by rw [lenK, decide_eq_true_eq]; omega]
   cases decide ((Zd t 1).kind = 9) <;> rfl
 by_cases h2 : t.kind = 4
 ·rw [Vse, Uv t, locB, textB', formB, fileVarB, h2]
  refine Eq.trans (b := bif !nameB t.text || !lenK t 3 then false else ((memK [5] (Zd t 0).kind && permF (Zd t 0)) && (noneB (Zd t 1) || isTypeB (Zd t 1))) && blockB (Zd t 2)) J (Eq.trans (b := (nameB t.text && kidsB t [memK [5], fun k => typK k || memK [9] k, memK [10]]) && t.kids.all permF) ?_ (Eq.trans (Bool.and_true _).symm J))
  rw [Xyd, Bool.and_assoc (nameB t.text) (kidsB t _), Xwd, Vra, Qia, Xxd, blockB, Zia 9, Zia 10]
  ac_rfl
 simp only [memK, List.mem_cons, List.not_mem_nil, h, h1, h2, decide_false, or_false, cond_false, Bool.false_and]
theorem Znd (l : List Nd) (p : Option Addr) (c : Nat) (D : Nat → Prop) (w : World) (hk : Kd w D l (.slice p l.length c)) (hln : l.length ≤ 1000000) : Ret PP Qxc #[.slice p l.length c] w fun r w' => r = .bool (l.all fieldB) ∧ G w w' := by
 have g := G.refl w
 obtain ⟨p', c', hpe, _, hks⟩ := hk
 injection hpe with hpe _ hce
 subst hpe hce
 refine Yp (m := 45) Xac J J [(0, True, _)] (Za J (Zj _)) ?_
 refine Ze (Zg (Zp J (Zb (kq (Ze (Ze (Zg (Zp J (Zb (kq (Yu (Qq (fun (i : Nat) u1 => (i ≤ l.length ∧ ∀ j, (h : j < l.length) → j < i → fieldB l[j] = true) ∧ G w u1) [(0, True, _)] (fun (i : Nat) => [(3, True, .int .i64 i)]) (fun (i : Nat) => l.length - i) (0) ⟨⟨Nat.zero_le _, fun j _ hj => absurd hj (Nat.not_lt_zero j)⟩, G.refl _⟩ (Za J (Za J (Zj _))) ?_))))))))))))
 rintro i u1 ⟨hI1, gl1⟩
 have g := g.trans gl1
 refine Ze (Ze (Zg (Zt J (Zt J (Qu Zf J (Zfa J J (Zb (kq (Yv J (fun h1 => ?_) (fun h1 => ?_))))))))))
 ·replace h1 : i < l.length := by simp only [decide_eq_true_eq] at h1; omega
  obtain ⟨b, o, rfl, hD, xs, hR, hX⟩ := hks (by omega)
  obtain ⟨p', c', hcell, hkid⟩ := Qta hR hX h1
  obtain ⟨p3, c3, h0x⟩ := Vka hkid 0
  refine Yc (kq (Ze (Yu (Ze (Zg (Zt J (Zt J (Jta Zf J J (by omega) (Zx Yd J (Yg Zu J ((hcell.grow g) 0 _ J) (Wja J J (Zt J (Zn J J J (fun _ => Yl (Zk J)) (Zn J J J (fun _ => Yl (Zk J)) (Zn J J J (fun _ => Jwb Zf (Zq J id) (Zq J id) (fun _ => by omega)) (Zn J J J (fun _ => Zv Ym (Zq J id)) (?_)))))))))))))))))
  refine Yj J J J (Ye Yr (Zq J id) (fun _ => (hcell.grow g) 1 _ J)) (We J J J (fun _ => (Zo Zna Yo (Xf (Zq J id) (Xw)) J)) (fun hc => Wqa _ _) (fun w22 g22 => ?_))
  have g := g.trans g22
  have gl1 := gl1.trans (g22)
  refine Zn J J J (fun _ => Xqa (Zq J id)) (Yi J (fun _ => Xh (Zk J) (Zq J id)) (Zt J (Zn J J J (fun _ => Yl (Zk J)) (Zn J J J (fun _ => Yl (Zk J)) (Zn J J J (fun _ => Jwb Zf (Zq J id) (Zq J id) (fun _ => by omega)) (Zn J J J (fun _ => Zv Zi (Zq J id)) (Yj J J J (Ye Zh (Zq J id) (fun _ => (hcell.grow g) 4 _ J)) (Zn J J J (fun _ => Zea Zf (Zq J id)) (Zn J J J (fun _ => Wba (Zq J id) Xy) (Yi J (fun _ => Xh (Zk J) (Zq J id)) (Zt J (Zn J J J (fun _ => Yl (Zk J)) (Zn J J J (fun _ => Yl (Zk J)) (Zn J J J (fun _ => Jwb Zf (Zq J id) (Zq J id) (fun _ => by omega)) (Zn J J J (fun _ => Zv Zi (Zq J id)) (?_))))))))))))))))
  refine Yj J J J (Ye Zh (Zq J id) (fun _ => (hcell.grow g) 4 _ J)) (Zn J J J (fun _ => Wj Zf (Zq J id) Xy (fun hc => by (have hz := hc.2; first | (unfold lenK at hz; simp at hz; omega) | (simp at hz; omega))) (fun hc => (h0x (by (have hz := hc.2; first | (unfold lenK at hz; simp at hz; omega) | (simp at hz; omega)))).1)) (Yj J J J (Xd Zc (Zq J id) J (fun hc => (h0x (by (have hz := hc.2; first | (unfold lenK at hz; simp at hz; omega) | (simp at hz; omega)))).2.1.grow g)) (We J J J (fun _ => (Zo Vja Yo (Xf (Zq J id) (Xw)) J)) (fun hc => Vib _ _ _ _) (fun w42 g42 => ?_))))
  have g := g.trans g42
  have gl1 := gl1.trans (g42)
  refine Zn J J J (fun _ => Xqa (Zq J id)) (Yi J (fun _ => Xh (Zk J) (Zq J id)) (Zb (kq (Yv J (fun h2 => ?_) (fun h2 => ?_)))))
  ·replace h2 : fieldB l[i] = false := by simpa using (Uqc _).trans h2
   refine Ze (Zg (Zp J (Zb (kq (Zr (Yx J J ?_))))))
   refine ⟨Ygg ?_, g⟩
   rw [eq_comm, List.all_eq_false]
   exact ⟨_, List.getElem_mem h1, by rw [h2]; simp⟩
  replace h2 : fieldB l[i] = true := by simpa using (Uqc _).trans h2
  refine Yc (kq (Zg (Zt J (Qv J J (by omega) (Zp J (Wh [(3, _, _), (0, _, _)] (Za J (Za J (Zj _))) (Zb (fun a ha => ?_))))))))
  refine ⟨i + 1, ha, ⟨⟨h1, fun j h hj => ?_⟩, gl1⟩, by omega⟩
  by_cases e : j = i
  ·subst e; exact h2
  ·exact hI1.2 j h (by omega)
 refine Vq J (kq (Ze (Zg (Zp J (Zb (kq (Zr (Yx J J ?_))))))))
 refine ⟨Ygg ?_, g⟩
 rw [eq_comm, List.all_eq_true]
 intro x hx
 obtain ⟨j, hj, rfl⟩ := List.getElem_of_mem hx
 exact hI1.2 j hj (by simp only [decide_eq_false_iff_not] at h1; omega)
theorem Vte (t : Nd) (p : Option Addr) (c : Nat) (D : Nat → Prop) (w : World) (hk : Kd w D t.kids (.slice p t.kids.length c)) (hcn : count t ≤ 1000000) : Ret PP Qtc #[ndV t (.slice p t.kids.length c)] w fun r w' => r = .bool (declB t) ∧ G w w' := by
 rw [← Zre]
 have g := G.refl w
 have hln := Qt t
 have ih : Blw t := fun k hk => rok k (by omega)
 obtain ⟨p1, c1, h1x⟩ := Uvb hk ih 1
 refine Yp (m := 77) Yvc J J [(0, True, _)] (Za J (Zj _)) ?_
 refine Ze (Zg (Wq J (Zk J) J ?_))
 intro b1 w1 N1
 have l1 := N1.ge g
 have g := g.trans N1.g
 have E := (Wo _).new N1
 refine Zp J (Zb (kq (Ze (Ze (Zg (Zx Yd J (Yg Zu J (E.g0.at_ J) (Zb (kq (Yu (Ze (Zg (Xt J J (Zp J (Zb (kq (Yv J (fun h1 => ?_) (fun h1 => ?_))))))))))))))))))
 ·(try simp only [Xq] at h1)
  refine Ze (Zg (Zx Ym J (Yg Yr J (E.g0.at_ J) (Xk J (Zo Zna Yo (aqc J aq0) J) (Wqa _ _) (fun w10 g10 => ?_)))))
  have g := g.trans g10
  replace E := E.grow g10
  refine Zt J (Zn J J J (fun _ => Zv Zi (Zk J)) (Yj J J J (Ye Zh (Zq J id) (fun _ => E.g0.at_ J)) (We J J J (fun _ => (Zo Ukb Yo (Xf (Zq J id) (Xw)) J)) (fun hc => Znd _ _ _ D _ (hk.grow g) (by omega)) (fun w14 g14 => ?_))))
  have g := g.trans g14
  replace E := E.grow g14
  refine Yi J (fun _ => Zz (Zk J) (Zq J id)) (Zp J (Zb (kq (Zr (Yx J J ?_)))))
  refine ⟨Ygg ?_, g⟩
  unfold Ypb; simp only [h1, cond_true, cond_false] <;> rfl
 refine Ze (Zg (Xt J J (Zp J (Zb (kq (Yv J (fun h2 => ?_) (fun h2 => ?_)))))))
 ·have hk2 : t.kind = 6 := by simpa using h2
  refine Ze (Zg (Yk Zc J J E.g0.row (Xk J (Zo Qyb Yo (aqc J aq0) J) (Uld t _ _ D _ (hk.grow g) ih) (fun w19 g19 => ?_))))
  have g := g.trans g19
  replace E := E.grow g19
  refine Zt J (Zn J J J (fun _ => Zv Zi (Zk J)) (Yj J J J (Ye Zh (Zq J id) (fun _ => E.g0.at_ J)) (Zn J J J (fun _ => Wj Zf (Zq J id) Xy (fun hc => by have := Vaa (.inr hk2) (Bool.and_eq_true_iff.1 hc.2).2; omega) (fun hc => (h1x (by have := Vaa (.inr hk2) (Bool.and_eq_true_iff.1 hc.2).2; omega)).1)) (Yj J J J (Xd Zc (Zq J id) J (fun hc => (h1x (by have := Vaa (.inr hk2) (Bool.and_eq_true_iff.1 hc.2).2; omega)).2.1.grow g)) (We J J J (fun _ => (Zo Yua Yo (Xf (Zq J id) (Xw)) J)) (fun hc => Vkb _ _ _ _) (fun w25 g25 => ?_))))))
  have g := g.trans g25
  replace E := E.grow g25
  refine Yi J (fun _ => Zz (Zk J) (Zq J id)) (Zp J (Zb (kq (Zr (Yx J J ?_)))))
  refine ⟨Ygg ?_, g⟩
  unfold Ypb; simp only [h1, h2, cond_true, cond_false] <;> rfl
 refine Ze (Zg (Xt J J (Zp J (Zb (kq (Yv J (fun h3 => ?_) (fun h3 => ?_)))))))
 ·(try simp only [Xq] at h3)
  refine Ze (Ze (Zg (Zx Ym J (Yg Yr J (E.g0.at_ J) (Xk J (Zo Zna Yo (aqc J aq0) J) (Wqa _ _) (fun w31 g31 => ?_))))))
  have g := g.trans g31
  replace E := E.grow g31
  refine Wia J (Zt J (Zn J J J (fun _ => Zv Zi (Zk J)) (Yj J J J (Ye Zh (Zq J id) (fun _ => E.g0.at_ J)) (Zn J J J (fun _ => Zea Zf (Zq J id)) (Zn J J J (fun _ => Wba (Zq J id) Xy) (Yi J (fun _ => Xh (Zk J) (Zq J id)) (Zb (kq (Yv J (fun h4 => ?_) (fun h4 => ?_))))))))))
  ·replace h4 : (!nameB t.text || !lenK t 3) = true := h4
   refine Ze (Zg (Zp J (Zb (kq (Zr (Yx J J ?_))))))
   refine ⟨Ygg ?_, g⟩
   unfold Ypb; simp only [h1, h2, h3, h4, cond_true, cond_false] <;> rfl
  replace h4 : (!nameB t.text || !lenK t 3) = false := h4
  have hl3 : t.kids.length = 3 := by simp only [lenK, Bool.or_eq_false_iff, Bool.not_eq_false', decide_eq_true_eq] at h4; omega
  obtain ⟨hpe, p0, c0, hcell0, hkid0⟩ := Xs hk (i := 0) (by omega)
  obtain ⟨_, p2, c2, hcell2, hkid2⟩ := Xs hk (i := 2) (by omega)
  obtain ⟨_, hcell1, hkid1, hr1⟩ := h1x (by omega)
  have hr2 := ih.kid (i := 2) (by omega)
  have hkl0 := Zid hcn 0
  refine Yc (kq (Ze (Zg (Zx Zi J (Yg Zh J (E.g0.at_ J) (Ve Zf J J (by omega) hpe (Yk Zc J J (hcell0.grow g) (Yh J Zm J ?_))))))))
  intro b3 w3 N3
  have l3 := N3.ge g
  have g := g.trans N3.g
  replace E := E.new N3
  refine Yt Zl J J J E.g0 ?_
  intro wS1 hgS1 _ BS
  replace E := E.s0 hgS1 BS
  have g := Zw g hgS1 (by omega)
  refine Zb (kq (Ze (Zg (Zx Yd J (Yg Zu J (E.g0.at_ J) (Xt J J (Zt J (Zn J J J (fun _ => Zv Ym (Zk J)) (Yj J J J (Ye Yr (Zq J id) (fun _ => E.g0.at_ J)) (Zn J J J (fun _ => Yya (Zq J id) Xy) (Yi J (fun _ => Zz (Zk J) (Zq J id)) (Zt J (Zn J J J (fun _ => Zv Zi (Zk J)) (Yj J J J (Ye Zh (Zq J id) (fun _ => E.g0.at_ J)) (We J J J (fun _ => (Zo Ukb Yo (Xf (Zq J id) (Xw)) J)) (fun hc => Znd _ _ _ D _ (hkid0.grow g) hkl0) (fun w54 g54 => ?_))))))))))))))))
  have g := g.trans g54
  replace E := E.grow g54
  refine Yi J (fun _ => Zz (Zk J) (Zq J id)) (Zt J (Zn J J J (fun _ => Zv Zi (Zk J)) (Yj J J J (Ye Zh (Zq J id) (fun _ => E.g1.at_ J)) (Zn J J J (fun _ => Wj Zf (Zq J id) Xy (fun _ => by omega) (fun _ => hpe)) (Yj J J J (Xd Zc (Zq J id) J (fun _ => hcell1.grow g)) (We J J J (fun _ => (Zo Yua Yo (Xf (Zq J id) (Xw)) J)) (fun hc => Vkb _ _ _ _) (fun w61 g61 => ?_)))))))
  have g := g.trans g61
  replace E := E.grow g61
  refine Zn J J J (fun _ => Yl (Zq J id)) (Zn J J J (fun _ => Zv Zi (Zk J)) (Yj J J J (Ye Zh (Zq J id) (fun _ => E.g1.at_ J)) (Zn J J J (fun _ => Wj Zf (Zq J id) Xy (fun _ => by omega) (fun _ => hpe)) (Yj J J J (Xd Zc (Zq J id) J (fun _ => hcell1.grow g)) (We J J J (fun _ => (Zo Vja Yo (Xf (Zq J id) (Xw)) J)) (fun hc => Vib _ _ _ _) (fun w67 g67 => ?_))))))
  have g := g.trans g67
  replace E := E.grow g67
  refine Zn J J J (fun _ => Xh (Zq J id) (Zq J id)) (Yi J (fun _ => Zz (Zk J) (Zq J id)) (Zt J (Zn J J J (fun _ => Zv Zi (Zk J)) (Yj J J J (Ye Zh (Zq J id) (fun _ => E.g1.at_ J)) (Zn J J J (fun _ => Wj Zf (Zq J id) Xy (fun _ => by omega) (fun _ => hpe)) (Yj J J J (Xd Zc (Zq J id) J (fun _ => hcell2.grow g)) (We J J J (fun _ => (Zo Zga Yo (Xf (Zq J id) (Xw)) J)) (fun hc => hr2.bl _ _ D _ (hkid2.grow g)) (fun w75 g75 => ?_))))))))
  have g := g.trans g75
  replace E := E.grow g75
  refine Yi J (fun _ => Zz (Zk J) (Zq J id)) (Zp J (Zb (kq (Zr (Yx J J ?_)))))
  refine ⟨Ygg ?_, g⟩
  unfold Ypb; simp only [h1, h2, h3, h4, cond_true, cond_false] <;> rfl
 refine Yc (kq (Ze (Zg (Zp J (Zb (kq (Zr (Yx J J ?_))))))))
 refine ⟨Ygg ?_, g⟩
 unfold Ypb; simp only [h1, h2, h3, cond_true, cond_false] <;> rfl
theorem Vue : ∀ (t : Nd) (v : Value) (D : Nat → Prop) (w : World), Kd w D t.kids v → count t ≤ 1000000 → Ret PP Ywd #[ndV t v] w fun r w' => r = .int .i64 (depthN t : Nat) ∧ G w w' := by
 refine Nd.ind fun t ih v D w hk hcn => ?_
 obtain ⟨p, c, rfl, hcap, hks⟩ := hk
 have g := G.refl w
 have hlen := Qt t
 have hdc := Xtd t
 have hde := Zlb t
 have hpre : ∀ i, maxL ((t.kids.take i).map depthN) ≤ maxL (t.kids.map depthN) := fun i => by
  rw [Wec]
  intro x hx
  rw [List.map_take] at hx
  exact (Wec _ _).1 (Nat.le_refl _) x (List.mem_of_mem_take hx)
 refine Yp (m := 22) Vgc J J [(0, True, _)] (Za J (Zj _)) ?_
 refine Ze (Zg (Wq J (Zk J) J ?_))
 intro b1 w1 N1
 have l1 := N1.ge g
 have g := g.trans N1.g
 have E := (Wo _).new N1
 refine Zp J (Zb (kq (Ze (Zg (Zp J (Zb (kq (Ze (Ze (Zg (Zp J (Zb (kq (Yu (Qq (fun (i : Nat) u1 => (i ≤ t.kids.length) ∧ G w1 u1) [(1, True, _), (2, True, _)] (fun (i : Nat) => [(3, True, .int .i64 ((maxL ((t.kids.take i).map depthN) : Nat) : Int)), (4, True, .int .i64 i)]) (fun (i : Nat) => t.kids.length - i) (0) ⟨by simp, G.refl _⟩ (Za J (Za J (Za J (Za J (Zj _))))) ?_)))))))))))))))
 rintro i u1 ⟨hI1, gl1⟩
 have g := g.trans gl1
 replace E := E.grow gl1
 refine Ze (Ze (Zg (Zt J (Zx Zi J (Yg Zh J (E.g0.at_ J) (Qu Zf J (Zfa J J (Zb (kq (Yv J (fun h1 => ?_) (fun h1 => ?_)))))))))))
 ·replace h1 : i < t.kids.length := by simp only [decide_eq_true_eq] at h1; omega
  obtain ⟨b, o, rfl, hD, xs, hR, hX⟩ := hks (by omega)
  obtain ⟨p', c', hcell, hkid⟩ := Qta hR hX h1
  have hck := Xka h1
  refine Yc (kq (Ze (Yu (Wma [3, 3, 0, 3, 3, 0, 1, 3, 3] (Zt J (Zx Zi J (Yg Zh J (E.g0.at_ J) (Zt J (Jta Zf J J (by omega) (Yk Zc J J (hcell.grow g) (Xk J (Zo Qvb Yo (aqc J aq0) J) (ih _ (List.getElem_mem h1) _ _ _ (hkid.grow g) (by omega)) (fun w18 g18 => ?_))))))))))))
  have gl1 := gl1.trans (g18)
  replace E := E.grow g18
  refine Yi J (fun _ => Jif (Zk J) (Zk J)) (Zp J (Zb (kq (Zg (Zt J (Qv J J (by omega) (Zp J (Wh [(3, _, _), (4, _, _), (1, _, _), (2, _, _)] (Za J (Za J (Za J (Za J (Zj _))))) (Zb (fun a ha => ?_))))))))))
  rw [Wxf, show max (maxL ((t.kids.take i).map depthN)) (depthN t.kids[i]) = maxL ((t.kids.take (i + 1)).map depthN) by rw [Joa depthN t.kids i h1, maxL, maxL, List.foldl_append]; rfl] at ha
  exact ⟨i + 1, ha, ⟨h1, gl1⟩, by omega⟩
 replace h1 : i = t.kids.length := by simp only [decide_eq_false_iff_not] at h1; omega
 have hp := hpre i
 refine Vq J (kq (Ze (Zg (Zt J (Qv J J (by omega) (Zp J (Zb (kq (Zr (Yx J J ?_))))))))))
 refine ⟨?_, g⟩
 rw [h1, List.take_length, hde]; rfl
theorem Vve (t : Nd) : (bif (!decide (t.kind = 1) || !plainB t) || decide ((50 : Int) < (depthN t : Nat)) then false else t.kids.all declB) = validB t := by
 rw [validB, permB]
 by_cases h : t.kind = 1
 ·rw [Uv, locB, textB', formB, h]
  refine Eq.trans (b := bif !plainB t || decide ((50 : Int) < (depthN t : Nat)) then false else t.kids.all declB) J (Eq.trans (b := ((plainB t && (!(t.kids.any fileVarB) && everyB t (memK [2, 6, 4]))) && t.kids.all permF) && decide (depthN t ≤ 50)) ?_ J)
  have e1 : decide ((50 : Int) < (depthN t : Nat)) = !decide (depthN t ≤ 50) := by
   rw [← decide_not, decide_eq_decide]; omega
  have e2 : t.kids.all declB = ((!(t.kids.any fileVarB) && everyB t (memK [2, 6, 4])) && t.kids.all permF) := by
   rw [Bool.and_assoc, Zmb, Bool.eq_iff_iff]
   simp only [Bool.and_eq_true, List.all_eq_true, declB, Bool.not_eq_true', List.any_eq_false]
   constructor
   ·intro h; exact ⟨fun k hk => by rw [(h k hk).2]; simp, fun k hk => (h k hk).1⟩
   ·rintro ⟨h1, h2⟩ k hk; exact ⟨h2 k hk, by simpa using h1 k hk⟩
  rw [e1, Xyd, e2]; ac_rfl
 ·rw [Yeg h]; rfl
theorem Und (t : Nd) (v : Value) (D : Nat → Prop) (w : World) (hk : Kd w D t.kids v) (hcn : count t ≤ 1000000) : Ret PP Ytd #[ndV t v] w fun r w' => r = .bool (validB t) ∧ G w w' := by
 rw [← Vve]
 obtain ⟨p, c, rfl, hcap, hks⟩ := hk
 have hk0 : Kd w D t.kids (.slice p t.kids.length c) := ⟨p, c, rfl, hcap, hks⟩
 have g := G.refl w
 have hln := Qt t
 refine Yp (m := 31) Vdc J J [(0, True, _)] (Za J (Zj _)) ?_
 refine Ze (Zg (Wq J (Zk J) J ?_))
 intro b1 w1 N1
 have l1 := N1.ge g
 have g := g.trans N1.g
 have E := (Wo _).new N1
 refine Zp J (Zb (kq (Ze (Ze (Zg (Zx Yd J (Yg Zu J (E.g0.at_ J) (Wja J J (Zt J (Zn J J J (fun _ => Zv Ym (Zk J)) (Yj J J J (Ye Yr (Zq J id) (fun _ => E.g0.at_ J)) (Zn J J J (fun _ => Jvb (Zq J id) Xy) (Yi J (fun _ => Xh (Zk J) (Zq J id)) (Zt J (Yj J J J (Xd Zc (Zk J) J (fun _ => E.g0.row)) (We J J J (fun _ => (Zo Qvb Yo (Xf (Zq J id) (Xw)) J)) (fun hc => Vue t _ D _ (hk0.grow g) hcn) (fun w14 g14 => ?_)))))))))))))))))
 have g := g.trans g14
 replace E := E.grow g14
 refine Zn J J J (fun _ => Yue (Zq J id) Xy) (Yi J (fun _ => Xh (Zk J) (Zq J id)) (Zb (kq (Yv J (fun h1 => ?_) (fun h1 => ?_)))))
 ·replace h1 : ((!decide (t.kind = 1) || !plainB t) || decide ((50 : Int) < (depthN t : Nat))) = true := h1
  refine Ze (Zg (Zp J (Zb (kq (Zr (Yx J J ?_))))))
  refine ⟨Ygg ?_, g⟩
  rw [h1]; rfl
 replace h1 : ((!decide (t.kind = 1) || !plainB t) || decide ((50 : Int) < (depthN t : Nat))) = false := h1
 refine Yc (kq (Ze (Ze (Zg (Zp J (Zb (kq (Yu (Qq (fun (i : Nat) u1 => (i ≤ t.kids.length ∧ ∀ j, (h : j < t.kids.length) → j < i → declB t.kids[j] = true) ∧ G w14 u1) [(1, True, _)] (fun (i : Nat) => [(3, True, .int .i64 i)]) (fun (i : Nat) => t.kids.length - i) (0) ⟨⟨Nat.zero_le _, fun j _ hj => absurd hj (Nat.not_lt_zero j)⟩, G.refl _⟩ (Za J (Za J (Zj _))) ?_)))))))))
 rintro i u1 ⟨hI1, gl1⟩
 have g := g.trans gl1
 replace E := E.grow gl1
 refine Ze (Ze (Zg (Zt J (Zx Zi J (Yg Zh J (E.g0.at_ J) (Qu Zf J (Zfa J J (Zb (kq (Yv J (fun h2 => ?_) (fun h2 => ?_)))))))))))
 ·replace h2 : i < t.kids.length := by simp only [decide_eq_true_eq] at h2; omega
  obtain ⟨hpe, p2, c2, hcell, hkid⟩ := Xs hk0 h2
  have hck := Zqa h2
  refine Yc (kq (Ze (Yu (Ze (Zg (Zx Zi J (Yg Zh J (E.g0.at_ J) (Zt J (Ve Zf J J (by omega) hpe (Yk Zc J J (hcell.grow g) (Xk J (Zo Quc Yo (aqc J aq0) J) (Vte _ _ _ D _ (hkid.grow g) (by omega)) (fun w29 g29 => ?_))))))))))))
  have g := g.trans g29
  have gl1 := gl1.trans (g29)
  replace E := E.grow g29
  refine Wia J (Zb (kq (Yv J (fun h3 => ?_) (fun h3 => ?_))))
  ·(try simp only [Xq] at h3)
   refine Ze (Zg (Zp J (Zb (kq (Zr (Yx J J ?_))))))
   refine ⟨Ygg ?_, g⟩
   rw [h1, cond_false, eq_comm, List.all_eq_false]
   exact ⟨_, List.getElem_mem h2, by rw [← Wm h2]; simpa using h3⟩
  refine Yc (kq (Zg (Zt J (Qv J J (by omega) (Zp J (Wh [(3, _, _), (1, _, _)] (Za J (Za J (Zj _))) (Zb (fun a ha => ?_))))))))
  refine ⟨i + 1, ha, ⟨⟨h2, fun j h hj => ?_⟩, gl1⟩, by omega⟩
  by_cases e : j = i
  ·subst e; rw [← Wm h2]; simpa using h3
  ·exact hI1.2 j h (by omega)
 refine Vq J (kq (Ze (Zg (Zp J (Zb (kq (Zr (Yx J J ?_))))))))
 refine ⟨Ygg ?_, g⟩
 rw [h1, cond_false, eq_comm, List.all_eq_true]
 intro x hx
 obtain ⟨j, hj, rfl⟩ := List.getElem_of_mem hx
 exact hI1.2 j hj (by simp only [decide_eq_false_iff_not] at h2; omega)
def countsB (t : Nd) : Bool := decide (t.kind = 24) || decide (t.kind = 25)
theorem Urc (t : Nd) (p : Option Addr) (c : Nat) (w : World) : Ret PP Qsc #[ndV t (.slice p t.kids.length c)] w fun v w' => v = .bool (countsB t) ∧ G w w' := by
 have g := G.refl w
 refine Yp (m := 11) Yuc J J [(0, True, _)] (Za J (Zj _)) ?_
 refine Ze (Zg (Wq J (Zk J) J ?_))
 intro b1 w1 N1
 have l1 := N1.ge g
 have g := g.trans N1.g
 have E := (Wo _).new N1
 refine Zp J (Zb (kq (Ze (Zg (Zx Yd J (Yg Zu J (E.g0.at_ J) (Xt J J (Zt J (Zn J J J (fun _ => Zv Yd (Zk J)) (Yj J J J (Ye Zu (Zq J id) (fun _ => E.g0.at_ J)) (Zn J J J (fun _ => Vt (Zq J id) Xy) (Yi J (fun _ => Xh (Zk J) (Zq J id)) (Zp J (Zb (kq (Zr (Yx J J ?_)))))))))))))))))
 exact ⟨rfl, g⟩
def lenQ (a b : Nd) : Bool := decide ((a.kids.length : Int) = b.kids.length)
def Job (a b : Nd) : Bool := ((decide (a.kind = b.kind) && decide (a.text = b.text)) && lenQ a b) && (!countsB a || decide (a.num = b.num))
theorem Zod (a b : Nd) : (!Job a b) = (((!decide (a.kind = b.kind) || !decide (a.text = b.text)) || !lenQ a b) || (countsB a && !decide (a.num = b.num))) := by
 unfold Job
 cases decide (a.kind = b.kind) <;> cases decide (a.text = b.text) <;> cases lenQ a b <;> cases countsB a <;> cases decide (a.num = b.num) <;> rfl
def cmpT (q : Nd → Nd → Bool) (a : Nd) : Nd → Bool := para (fun a l b => q a b && (List.range a.kids.length).all fun i => (l.getD i fun _ => false) (Zd b i)) a
theorem Vwe {n : Nat} {f h : Nat → Bool} (e : ∀ i, i < n → f i = h i) : (List.range n).all f = (List.range n).all h := by
 rw [Bool.eq_iff_iff, List.all_eq_true, List.all_eq_true]
 exact ⟨fun k i hi => (e i (List.mem_range.1 hi)) ▸ k i hi, fun k i hi => (e i (List.mem_range.1 hi)).symm ▸ k i hi⟩
theorem Wyf (q : Nd → Nd → Bool) (a b : Nd) : cmpT q a b = (q a b && (List.range a.kids.length).all fun i => cmpT q (Zd a i) (Zd b i)) := by
 rw [cmpT, Xja]
 refine congrArg (q a b && ·) (Vwe fun i hi => ?_)
 have : (a.kids.map (cmpT q)).getD i (fun _ => false) = cmpT q (Zd a i) := by
  rw [Wm hi]; simp [List.getD_eq_getElem?_getD, List.getElem?_eq_getElem hi]
 exact congrFun this (Zd b i)
def eqB (a b : Nd) : Bool := cmpT Job a b
theorem Jjf (a b : Nd) : eqB a b = (Job a b && (List.range a.kids.length).all fun i => eqB (Zd a i) (Zd b i)) := Wyf Job a b
theorem lenQ_iff {a b : Nd} : lenQ a b = true ↔ a.kids.length = b.kids.length := by rw [lenQ, decide_eq_true_eq]; omega
theorem Vxe {a b : Nd} (h : Job a b = true) : a.kids.length = b.kids.length := by
 unfold Job at h; rw [Bool.and_eq_true, Bool.and_eq_true] at h; exact lenQ_iff.1 h.1.2
theorem Vye : ∀ (a : Nd) (va : Value) (D : Nat → Prop) (b : Nd) (vb : Value) (D' : Nat → Prop) (w : World), Kd w D a.kids va → Kd w D' b.kids vb → count a ≤ 1000000 → Ret PP Ysd #[ndV a va, ndV b vb] w fun r w' => r = .bool (eqB a b) ∧ G w w' := by
 refine Nd.ind fun a ih va D b vb D' w hka hkb hcn => ?_
 obtain ⟨pa, ca, rfl, hcapa, hksa⟩ := hka
 have hka0 : Kd w D a.kids (.slice pa a.kids.length ca) := ⟨pa, ca, rfl, hcapa, hksa⟩
 obtain ⟨pb', cb, rfl, hcapb, hksb⟩ := hkb
 have hkb0 : Kd w D' b.kids (.slice pb' b.kids.length cb) := ⟨pb', cb, rfl, hcapb, hksb⟩
 have g := G.refl w
 have hln := Qt a
 rw [Jjf]
 refine Yp (m := 57) Vac J J [(0, True, _), (1, True, _)] (Za J (Za J (Zj _))) ?_
 refine Ze (Zg (Wq J (Zk J) J ?_))
 intro b2 w2 N2
 have l2 := N2.ge g
 have g := g.trans N2.g
 have E := (Wo _).new N2
 refine Wq J (Zk J) J ?_
 intro b3 w3 N3
 have l3 := N3.ge g
 have g := g.trans N3.g
 replace E := E.new N3
 refine Zp J (Zb (kq (Ze (Ze (Zg (Zx Yd J (Yg Zu J (E.g1.at_ J) (Zx Yd J (Yg Zu J (E.g0.at_ J) (Wja J J (Zt J (Zn J J J (fun _ => Zv Ym (Zk J)) (Yj J J J (Ye Yr (Zq J id) (fun _ => E.g1.at_ J)) (Zn J J J (fun _ => Zv Ym (Zk J)) (Yj J J J (Ye Yr (Zq J id) (fun _ => E.g0.at_ J)) (Zn J J J (fun _ => Jvb (Zq J id) (Zq J id)) (?_)))))))))))))))))
 refine Yi J (fun _ => Xh (Zk J) (Zq J id)) (Zt J (Zn J J J (fun _ => Zv Zi (Zk J)) (Yj J J J (Ye Zh (Zq J id) (fun _ => E.g1.at_ J)) (Zn J J J (fun _ => Zea Zf (Zq J id)) (Zn J J J (fun _ => Zv Zi (Zk J)) (Yj J J J (Ye Zh (Zq J id) (fun _ => E.g0.at_ J)) (Zn J J J (fun _ => Zea Zf (Zq J id)) (Zn J J J (fun _ => Wba (Zq J id) (Zq J id)) (Yi J (fun _ => Xh (Zk J) (Zq J id)) (Zt J (Yj J J J (Xd Zc (Zk J) J (fun _ => E.g1.row)) (We J J J (fun _ => (Zo Ujb Yo (Xf (Zq J id) (Xw)) J)) (fun hc => Urc _ _ _ _) (fun w29 g29 => ?_)))))))))))))
 have g := g.trans g29
 replace E := E.grow g29
 refine Zn J J J (fun _ => Yl (Zq J id)) (Zn J J J (fun _ => Zv Xl (Zk J)) (Yj J J J (Ye Zu (Zq J id) (fun _ => E.g1.at_ J)) (Zn J J J (fun _ => Zv Xl (Zk J)) (Yj J J J (Ye Zu (Zq J id) (fun _ => E.g0.at_ J)) (Zn J J J (fun _ => Wba (Zq J id) (Zq J id)) (Zn J J J (fun _ => Zz (Zq J id) (Zq J id)) (Yi J (fun _ => Xh (Zk J) (Zq J id)) (Zb (kq (Yv J (fun h1 => ?_) (fun h1 => ?_)))))))))))
 ·replace h1 : Job a b = false := by simpa using (Zod a b).trans h1
  refine Ze (Zg (Zp J (Zb (kq (Zr (Yx J J ?_))))))
  rw [h1]; exact ⟨rfl, g⟩
 replace h1 : Job a b = true := by simpa using (Zod a b).trans h1
 have hl := Vxe h1
 refine Yc (kq (Ze (Ze (Zg (Zp J (Zb (kq (Yu (Qq (fun (i : Nat) u1 => (i ≤ a.kids.length ∧ ∀ j, j < i → eqB (Zd a j) (Zd b j) = true) ∧ G w29 u1) [(2, True, _), (3, True, _)] (fun (i : Nat) => [(5, True, .int .i64 i)]) (fun (i : Nat) => a.kids.length - i) (0) ⟨⟨Nat.zero_le _, fun j hj => absurd hj (Nat.not_lt_zero j)⟩, G.refl _⟩ (Za J (Za J (Za J (Zj _)))) ?_)))))))))
 rintro i u1 ⟨hI1, gl1⟩
 have g := g.trans gl1
 replace E := E.grow gl1
 refine Ze (Ze (Zg (Zt J (Zx Zi J (Yg Zh J (E.g1.at_ J) (Qu Zf J (Zfa J J (Zb (kq (Yv J (fun h2 => ?_) (fun h2 => ?_)))))))))))
 ·replace h2 : i < a.kids.length := by simp only [decide_eq_true_eq] at h2; omega
  obtain ⟨hpa, p1, c1, hcell1, hkid1⟩ := Xs hka0 h2
  obtain ⟨hpb, p2, c2, hcell2, hkid2⟩ := Xs hkb0 (i := i) (by omega)
  have hck := Zqa h2
  refine Yc (kq (Ze (Yu (Ze (Wr [3, 0, 3, 3, 0, 3, 0, 3, 3, 0, 1, 3] [true, true, true, true, true, true, true, true, true, true, true, true] [0, 1, 0, 7, 15, 0, 32, 0, 224, 480, 1023, 2047] mix (by kernel_rfl) ?_)))))
  have g := gdr g
  have gl1 := gl1.trans (G.drew _)
  replace E := E.dr
  refine Zx Zi J (Yg Zh J (E.g1.at_ J) (Zt J (Ve Zf J J (by omega) hpa (Yk Zc J J (hcell1.grow g) (Zx Zi J (Yg Zh J (E.g0.at_ J) (Zt J (Ve Zf J J (by omega) hpb (Yk Zc J J (hcell2.grow g) (Xk J (Zo Qsb Yo (aqc J (aqc J aq0)) J) (ih _ (Wm h2 ▸ List.getElem_mem h2) _ D _ _ D' _ (hkid1.grow g) (hkid2.grow g) (by omega)) (fun w55 g55 => ?_)))))))))))
  have g := g.trans g55
  have gl1 := gl1.trans (g55)
  replace E := E.grow g55
  refine Wia J (Zb (kq (Yv J (fun h3 => ?_) (fun h3 => ?_))))
  ·(try simp only [Xq] at h3)
   refine Ze (Zg (Zp J (Zb (kq (Zr (Yx J J ?_))))))
   refine ⟨Ygg ?_, g⟩
   rw [h1, Bool.true_and, eq_comm, List.all_eq_false]
   exact ⟨i, List.mem_range.2 h2, by simpa using h3⟩
  refine Yc (kq (Zg (Zt J (Qv J J (by omega) (Zp J (Wh [(5, _, _), (2, _, _), (3, _, _)] (Za J (Za J (Za J (Zj _)))) (Zb (fun a ha => ?_))))))))
  refine ⟨i + 1, ha, ⟨⟨h2, fun j hj => ?_⟩, gl1⟩, by omega⟩
  by_cases e : j = i
  ·subst e; simpa using h3
  ·exact hI1.2 j (by omega)
 refine Vq J (kq (Ze (Zg (Zp J (Zb (kq (Zr (Yx J J ?_))))))))
 refine ⟨Ygg ?_, g⟩
 rw [h1, Bool.true_and, eq_comm, List.all_eq_true]
 intro j hj
 exact hI1.2 j (by have := List.mem_range.1 hj; simp only [decide_eq_false_iff_not] at h2; omega)
def numS (t : Nd) : Int := bif countsB t then t.num else 0
def stripT (t : Nd) : Nd := para (fun t l => .mk t.kind t.text (numS t) 0 l ty0 0 0) t
theorem Vze (t : Nd) : stripT t = .mk t.kind t.text (numS t) 0 (t.kids.map stripT) ty0 0 0 := Xja _ t
def plainT (t : Nd) : Nd := para (fun t l => .mk t.kind t.text (numS t) t.pos l ty0 0 0) t
theorem Zpd (t : Nd) : plainT t = .mk t.kind t.text (numS t) t.pos (t.kids.map plainT) ty0 0 0 := Xja _ t
theorem Wsb (t : Nd) (v : Value) : ndCells (stripT t) v = [.int .i64 t.kind, Str t.text, .int .i64 (numS t), .int .i64 0, v, .int .i64 0, Str [], .int .i64 0, .int .i64 0] := by rw [Vze]; rfl
theorem Yjc (t : Nd) (v : Value) : ndCells (plainT t) v = [.int .i64 t.kind, Str t.text, .int .i64 (numS t), .int .i64 t.pos, v, .int .i64 0, Str [], .int .i64 0, .int .i64 0] := by rw [Zpd]; rfl
theorem Qeb (t : Nd) : (plainT t).kids = t.kids.map plainT := by rw [Zpd]; rfl
structure Vr where
  name : List UInt8
  typ : Ty
  num : Nat
  level : Nat
  scope : Nat
def vrCells (v : Vr) : List Value := [Str v.name, .int .i64 v.typ.kind, Str v.typ.name, .int .i64 v.num, .int .i64 v.level, .int .i64 v.scope]
structure CSt where
  vars : List Vr
  scope : Nat
  level : Nat
  next : List Nat
  result : Ty
  ea : Int
  ee : Int
def failS (a e : Int) (S : CSt) : CSt := bif decide (S.ee = 0) then { S with ea := a, ee := e } else S
def failU (b : Bool) (a e : Int) (S : CSt) : CSt := bif b then S else failS a e S
def clnT (t : Nd) : Nd := .mk t.kind t.text (numS t) t.pos [] ty0 0 0
def annT (t : Nd) (ks : List Nd) (y : Ty) : Nd := .mk t.kind t.text (numS t) t.pos ks y 0 0
def findK (kd : Int) (s : List UInt8) : List Nd → Nat → Nd × Int
  | [], _ => (nd0, -1)
  | d :: l, k => bif decide (d.kind = kd) then (bif decide (d.text = s) then (d, (k : Int)) else findK kd s l (k + 1)) else findK kd s l k
def findD (F : Nd) (kd : Int) (s : List UInt8) : Nd × Int := findK kd s F.kids 0
def pointerS (F n : Nd) (S : CSt) : CSt := bif decide (n.kind = 8) then failU (!decide ((findD F 2 n.text).2 < 0)) n.pos 5 S else S
def localS (F n : Nd) (S : CSt) : CSt := failU (Qr (ofF n).1) n.pos 7 (pointerS F n S)
def openS (S : CSt) : CSt := { S with scope := S.scope + 1 }
def dropV (sc : Nat) (l : List Vr) : List Vr := (l.reverse.dropWhile fun v => decide (v.scope = sc)).reverse
def shutS (S : CSt) : CSt := { S with vars := dropV S.scope S.vars, scope := S.scope - 1 }
def dupV (S : CSt) (name : List UInt8) : Bool := S.vars.any fun v => decide (v.scope = S.scope) && decide (v.name = name)
def declN (S : CSt) : Nat := S.next.getD S.level 0
def declS (name : List UInt8) (y : Ty) (a : Int) (S : CSt) : CSt :=
  let S1 := failU (!dupV S name) a 6 S
  { S1 with next := S.next.set S.level (declN S + 1), vars := S.vars ++ [⟨name, y, declN S, S.level, S.scope⟩] }
def findV (l : List Vr) (s : List UInt8) : Option Vr := l.reverse.find? fun v => decide (v.name = s)
def Zpb (d : Nd) : Ty := bif decide (((Zd d 0).kids.length : Int) = 0) && decide ((Zd d 1).kind = 9) then tFunc else ty0
def lookR (F : Nd) (S : CSt) (n : Nd) : Nd × Bool :=
  match findV S.vars n.text with
  | some v => (.mk n.kind n.text v.num n.pos [] v.typ 1 ((S.level : Int) - v.level), true)
  | none =>
    bif decide (0 ≤ (findD F 6 n.text).2) then (.mk n.kind n.text (findD F 6 n.text).2 n.pos [] (ofF (Zd (findD F 6 n.text).1 0)).1 2 0, true)
    else bif decide (0 ≤ (findD F 4 n.text).2) then (.mk n.kind n.text (findD F 4 n.text).2 n.pos [] (Zpb (findD F 4 n.text).1) 3 0, true)
    else (clnT n, false)
structure Ck where
  ex : CSt → Nd × CSt
  mem : CSt → (Nd × Bool) × CSt
  rcv : CSt → Nd × Bool
  cal : CSt → (Nd × List Ty × Ty) × CSt
  st : CSt → Nd × CSt
  blk : CSt → Nd × CSt
  ifs : CSt → Nd × CSt
  sts : CSt → Nd × CSt
  cas : Bool → CSt → Nd × CSt
def ck0 : Ck := ⟨fun S => (nd0, S), fun S => ((nd0, false), S), fun _ => (nd0, false), fun S => ((nd0, [], ty0), S), fun S => (nd0, S), fun S => (nd0, S), fun S => (nd0, S), fun S => (nd0, S), fun _ S => (nd0, S)⟩
def wantS (x : Nd) (k a : Int) (S : CSt) : CSt := failU (decide (x.ty.kind = k)) a 7 S
section
variable (F n : Nd) (x : Nat → Ck)
def memR (S : CSt) : (Nd × Bool) × CSt :=
  let a := (x 0).ex S
  bif decide (a.1.ty.kind = 4) then
    match (Qn F a.1.ty.name).1.find? fun f => decide (f.name = n.text) with
    | some f => ((annT n [a.1] f.ty, true), a.2)
    | none => ((annT n [a.1] ty0, false), failS n.pos 5 a.2)
  else ((annT n [a.1] ty0, false), failS n.pos 7 a.2)
def rcvR (S : CSt) : Nd × Bool :=
  bif decide (n.kind = 27) then ((lookR F S n).1, ((lookR F S n).2 && decide ((lookR F S n).1.ref = 2)) && decide (8 ≤ (lookR F S n).1.ty.kind))
  else bif decide (n.kind = 28) then ((memR F n x S).1.1, ((memR F n x S).1.2 && decide ((memR F n x S).2.ee = 0)) && decide (8 ≤ (memR F n x S).1.1.ty.kind))
  else (nd0, false)
def argA (ps : List Ty) (S : CSt) : Nat → List Nd × CSt
  | 0 => ([], S)
  | i + 1 =>
    let a := argA ps S i
    let e := (x (i + 1)).ex a.2
    (a.1 ++ [e.1], failU (!(decide (i < ps.length) && !Ub (ps.getD i ty0) e.1.ty)) (Zd n (i + 1)).pos 7 e.2)
def callR (S : CSt) : Nd × CSt :=
  let c := (x 0).cal S
  let a := argA n x c.1.2.1 (failU (decide ((n.kids.length : Int) - 1 = c.1.2.1.length)) n.pos 7 c.2) (n.kids.length - 1)
  (annT n (c.1.1 :: a.1) c.1.2.2, a.2)
def litS (S : CSt) : CSt := { S with result := ty0, level := S.level + 1, next := S.next.take (S.level + 1) ++ [0] }
def litR (S : CSt) : Nd × CSt :=
  let b := (x 0).blk (litS S)
  (annT n [b.1] tFunc, { b.2 with level := b.2.level - 1, result := S.result })
def unTy : Ty := bif decide (n.text = [33]) then tBool else tInt
def opR (S : CSt) : Nd × CSt :=
  let a := (x 0).ex S
  bif decide (n.kind = 29) then
    let b := (x 1).ex (wantS a.1 5 (Zd n 0).pos a.2)
    (annT n [a.1, b.1] tInt, wantS b.1 1 (Zd n 1).pos b.2)
  else bif decide (n.kind = 31) then (annT n [a.1] (unTy n), wantS a.1 (unTy n).kind n.pos a.2)
  else bif decide (n.kind = 32) then
    let b := (x 1).ex a.2
    (annT n [a.1, b.1] (binT n.text a.1.ty b.1.ty).1, failU (binT n.text a.1.ty b.1.ty).2 n.pos 7 b.2)
  else bif decide (n.kind = 33) then (annT n [a.1] tInt, wantS a.1 6 n.pos a.2)
  else bif decide (n.kind = 37) then (annT n [a.1] tInt, wantS a.1 5 (Zd n 0).pos a.2)
  else bif decide (n.kind = 35) then (annT n [a.1] ⟨5, []⟩, wantS a.1 1 (Zd n 0).pos a.2)
  else bif decide (n.kind = 36) then (annT n [a.1] ⟨6, []⟩, wantS a.1 1 (Zd n 0).pos a.2)
  else (annT n [a.1] ty0, a.2)
def exR (S : CSt) : Nd × CSt :=
  bif decide (n.kind = 24) then (annT n [] tInt, S)
  else bif decide (n.kind = 25) then (annT n [] tBool, S)
  else bif decide (n.kind = 26) then (annT n [] tNil, S)
  else bif decide (n.kind = 38) then litR n x S
  else bif decide (n.kind = 30) then callR n x S
  else bif decide (n.kind = 27) then ((lookR F S n).1, bif (lookR F S n).2 then failU (Qr (lookR F S n).1.ty) n.pos 7 S else failS n.pos 5 S)
  else bif decide (n.kind = 28) then ((memR F n x S).1.1, failU (!((memR F n x S).1.2 && !Qr (memR F n x S).1.1.ty)) n.pos 7 (memR F n x S).2)
  else bif decide (n.kind = 34) then (annT n [] ⟨4, n.text⟩, failU (!decide ((findD F 2 n.text).2 < 0)) n.pos 5 S)
  else opR n x S
def rcvX (S : CSt) : Nd × CSt := bif decide ((Zd n 0).kind = 28) then (((x 0).mem S).1.1, ((x 0).mem S).2) else (((x 0).rcv S).1, S)
def calR (S : CSt) : (Nd × List Ty × Ty) × CSt :=
  bif decide (n.kind = 28) && ((x 0).rcv S).2 then
    let r := rcvX n x S
    ((annT n [r.1] ty0, (mthF r.1.ty n.text).1, (mthF r.1.ty n.text).2.1), failU (mthF r.1.ty n.text).2.2 n.pos 5 r.2)
  else bif decide (n.kind = 27) && ((lookR F S n).2 && decide ((lookR F S n).1.ref = 3)) then
    (((lookR F S n).1, (Zd (findD F 4 n.text).1 0).kids.map (fun p => (ofF (Zd p 0)).1), (ofF (Zd (findD F 4 n.text).1 1)).1), S)
  else
    let a := exR F n x S
    ((a.1, [], ty0), failU (tyEqB a.1.ty tFunc) n.pos 7 a.2)
def stA (S : CSt) : Nat → List Nd × CSt
  | 0 => ([], S)
  | i + 1 =>
    let a := stA S i
    let e := (x i).st a.2
    (a.1 ++ [e.1], e.2)
def stsR (S : CSt) : Nd × CSt := (annT n (stA x S n.kids.length).1 ty0, (stA x S n.kids.length).2)
def blkR (S : CSt) : Nd × CSt := ((stsR n x (openS S)).1, shutS (stsR n x (openS S)).2)
def condR (k : Nd) (y : Ck) (S : CSt) : Nd × CSt :=
  bif decide (k.kind = 9) then (clnT k, S) else ((y.ex S).1, wantS (y.ex S).1 2 k.pos (y.ex S).2)
def ifR (S : CSt) : Nd × CSt :=
  let a := condR (Zd n 0) (x 0) S
  let b := (x 1).blk a.2
  let e := bif decide ((Zd n 2).kind = 10) then (x 2).blk b.2 else bif decide ((Zd n 2).kind = 18) then (x 2).ifs b.2 else (clnT (Zd n 2), b.2)
  (annT n [a.1, b.1, e.1] ty0, e.2)
def asgR (S : CSt) : Nd × CSt :=
  let a := (x 0).ex S
  let b := (x 1).ex (failU (((decide (a.1.kind = 27) && !decide (a.1.ref = 3)) || decide (a.1.kind = 28)) || decide (a.1.kind = 29)) (Zd n 0).pos 7 a.2)
  (annT n [a.1, b.1] ty0, failU (Ub a.1.ty b.1.ty) (Zd n 1).pos 7 b.2)
def casR (first : Bool) (S : CSt) : Nd × CSt :=
  let a := bif decide ((Zd n 0).kind = 9) then (clnT (Zd n 0), failU first n.pos 6 (openS S)) else (x 0).st (openS S)
  let b := (x 1).sts a.2
  (annT n [a.1, b.1] ty0, shutS b.2)
def selA (S : CSt) : Nat → List Nd × Bool × CSt
  | 0 => ([], true, S)
  | i + 1 =>
    let a := selA S i
    let e := (x i).cas a.2.1 a.2.2
    (a.1 ++ [e.1], a.2.1 && !decide ((Zd (Zd n i) 0).kind = 9), e.2)
def selR (S : CSt) : Nd × CSt := (annT n (selA n x S n.kids.length).1 ty0, (selA n x S n.kids.length).2.2)
def dclT (ks : List Nd) (k : Nat) : Nd := .mk n.kind n.text k n.pos ks ty0 1 0
def varR (S : CSt) : Nd × CSt :=
  let a := bif decide ((Zd n 1).kind = 9) then (clnT (Zd n 1), localS F (Zd n 0) S) else (((x 1).ex (localS F (Zd n 0) S)).1, failU (Ub (ofF (Zd n 0)).1 ((x 1).ex (localS F (Zd n 0) S)).1.ty) (Zd n 1).pos 7 ((x 1).ex (localS F (Zd n 0) S)).2)
  (dclT n [plainT (Zd n 0), a.1] (declN a.2), declS n.text (ofF (Zd n 0)).1 n.pos a.2)
def defR (S : CSt) : Nd × CSt :=
  let a := (x 0).ex S
  let S1 := failU (Qr a.1.ty) (Zd n 0).pos 7 a.2
  (dclT n [a.1] (declN S1), declS n.text a.1.ty n.pos S1)
def forR (S : CSt) : Nd × CSt :=
  let a := condR (Zd n 0) (x 0) S
  let b := (x 1).blk a.2
  (annT n [a.1, b.1] ty0, b.2)
def retR (S : CSt) : Nd × CSt :=
  let S1 := failU (!Bool.xor (decide ((n.kids.length : Int) = 1)) (!tyEqB S.result ty0)) n.pos 7 S
  bif decide ((n.kids.length : Int) = 1) then
    (annT n [((x 0).ex S1).1] ty0, failU (Ub ((x 0).ex S1).2.result ((x 0).ex S1).1.ty) (Zd n 0).pos 7 ((x 0).ex S1).2)
  else (annT n [] ty0, S1)
def stR (S : CSt) : Nd × CSt :=
  bif decide (n.kind = 10) then blkR n x S
  else bif decide (n.kind = 18) then ifR n x S
  else bif decide (n.kind = 12) then asgR n x S
  else bif decide (n.kind = 22) then selR n x S
  else bif decide (n.kind = 6) then varR F n x S
  else bif decide (n.kind = 11) then defR n x S
  else bif decide (n.kind = 19) then forR n x S
  else bif decide (n.kind = 20) then retR n x S
  else
    let a := (x 0).ex S
    bif decide (n.kind = 16) then
      let b := (x 1).ex (wantS a.1 6 (Zd n 0).pos a.2)
      (annT n [a.1, b.1] ty0, wantS b.1 1 (Zd n 1).pos b.2)
    else bif decide (n.kind = 17) then (annT n [a.1] ty0, wantS a.1 6 (Zd n 0).pos a.2)
    else bif decide (n.kind = 21) then (annT n [a.1] ty0, failU (decide (a.1.ty.kind = 1) || decide (a.1.ty.kind = 2)) (Zd n 0).pos 7 a.2)
    else (annT n [a.1] ty0, a.2)
end
def ckF (F t : Nd) (x : Nat → Ck) : Ck := ⟨exR F t x, memR F t x, rcvR F t x, calR F t x, stR F t x, blkR t x, ifR t x, stsR t x, casR t x⟩
def ckT (F t : Nd) : Ck := para (fun t l => ckF F t fun i => l.getD i ck0) t
def ckX (F t : Nd) (i : Nat) : Ck := (t.kids.map (ckT F)).getD i ck0
theorem Qw (F t : Nd) : ckT F t = ckF F t (ckX F t) := Xja _ t
theorem Uo {F t : Nd} {i : Nat} (h : i < t.kids.length) : ckX F t i = ckT F (Zd t i) := by
  rw [ckX, Wm h]; simp [List.getD_eq_getElem?_getD, List.getElem?_eq_getElem h]
/-! the file -/
def parA (F p : Nd) (S : CSt) : Nat → List Nd × CSt
  | 0 => ([], S)
  | i + 1 =>
    let a := parA F p S i
    let f := Zd p i
    (a.1 ++ [.mk f.kind f.text (declN a.2) f.pos (f.kids.map plainT) ty0 1 0], localS F (Zd f 0) (declS f.text (ofF (Zd f 0)).1 f.pos a.2))
def endP (t : Nd) (l : List (Bool × Bool)) : Bool × Bool :=
  (bif decide (t.kind = 20) then true
   else bif decide (t.kind = 19) then decide ((Zd t 0).kind = 9)
   else bif decide (t.kind = 10) then (l.getLast?.getD (false, false)).1
   else bif decide (t.kind = 18) then (l.getD 1 (false, false)).2 && ((decide ((Zd t 2).kind = 10) && (l.getD 2 (false, false)).2) || (decide ((Zd t 2).kind = 18) && (l.getD 2 (false, false)).1))
   else false, (l.getLast?.getD (false, false)).1)
def endT (t : Nd) : Bool × Bool := para endP t
theorem Wsa (t : Nd) : endT t = endP t (t.kids.map endT) := Xja _ t
def endsL (l : List Nd) : Bool := ((l.map endT).getLast?.getD (false, false)).1
theorem Usc (t : Nd) : (endT t).2 = endsL t.kids := by rw [Wsa]; rfl
def funS0 (S : CSt) : CSt := { S with vars := [], scope := 0, level := 0, next := [0] }
def funS1 (F n : Nd) (S : CSt) : CSt := { (parA F (Zd n 0) (funS0 S) (Zd n 0).kids.length).2 with result := ty0 }
def funS2 (F n : Nd) (S : CSt) : CSt := bif decide ((Zd n 1).kind = 9) then funS1 F n S else { localS F (Zd n 1) (funS1 F n S) with result := (ofF (Zd n 1)).1 }
def funR (F n : Nd) (S : CSt) : Nd × CSt :=
  let b := (ckT F (Zd n 2)).sts (funS2 F n S)
  (annT n [annT (Zd n 0) (parA F (Zd n 0) (funS0 S) (Zd n 0).kids.length).1 ty0, plainT (Zd n 1), b.1] ty0,
   failU (decide ((Zd n 1).kind = 9) || endsL (Zd n 2).kids) n.pos 7 b.2)
def dupAt (n : Nd) (i : Nat) : Bool := (n.kids.take i).any fun k => decide (k.text = (Zd n i).text)
def namA (n : Nd) (S : CSt) : Nat → CSt
  | 0 => S
  | i + 1 => failU (!dupAt n i) (Zd n i).pos 6 (namA n S i)
def strA (F n : Nd) (S : CSt) : Nat → CSt
  | 0 => S
  | i + 1 => pointerS F (Zd (Zd n i) 0) (failU (!dupAt n i) (Zd n i).pos 6 (strA F n S i))
def dclR (F n : Nd) (S : CSt) : Nd × CSt :=
  bif decide (n.kind = 2) then (plainT n, strA F n S n.kids.length)
  else bif decide (n.kind = 6) then (plainT n, pointerS F (Zd n 0) S)
  else bif decide (n.kind = 4) then funR F n S
  else (plainT n, S)
def dclA (F : Nd) (S : CSt) : Nat → List Nd × CSt
  | 0 => ([], S)
  | i + 1 =>
    let a := dclA F S i
    let e := dclR F (Zd F i) a.2
    (a.1 ++ [e.1], e.2)
def rs0 : CSt := ⟨[], 0, 0, [], ty0, 0, 0⟩
def Uod (F : Nd) (S : CSt) : CSt :=
  bif decide ((findD F 4 [109, 97, 105, 110]).2 < 0) then failS 0 5 S
  else bif decide (0 < ((Zd (findD F 4 [109, 97, 105, 110]).1 0).kids.length : Int)) || !decide ((Zd (findD F 4 [109, 97, 105, 110]).1 1).kind = 9) then failS (findD F 4 [109, 97, 105, 110]).1.pos 7 S else S
def refS (F : Nd) : CSt := Uod F (dclA F (namA F rs0 F.kids.length) F.kids.length).2
def refA (F : Nd) : Nd := annT F (dclA F (namA F rs0 F.kids.length) F.kids.length).1 ty0
def refCheck (F : Nd) : Nd × Int × Int :=
  bif validB F then (bif decide ((refS F).ee = 0) then (refA F, 0, 0) else (nd0, (refS F).ea, (refS F).ee)) else (nd0, 0, 1)
section
variable {w w' : World} {base : Nat} {e : TypeId} {z m q : Nat} {v : Value} {o : Option Addr} {xs : List Value}
theorem Xoe {j : Nat} (h : w.ownsRow base e z (.slice o m q) m xs) (hj : j ≤ m) : w.ownsRow base e z (.slice o j q) j (xs.take (j * z)) := by
 have hl : j * z ≤ m * z := Nat.mul_le_mul_right z hj
 refine ⟨by rw [List.length_take, h.1]; omega, ?_⟩
 rcases h.2 with ⟨h1, h2⟩ | ⟨g, cap, cur, h1, h2, h3, h4, h5, h6, h7⟩
 ·injection h1 with e1 e2 e3; subst e1; subst e3
  exact .inl ⟨by rw [show j = 0 by omega], by omega⟩
 ·injection h1 with e1 e2 e3; subst e1; subst e3
  exact .inr ⟨g, q, cur, rfl, h2, h3, by omega, h5, h6, by rw [← h7, List.take_take, Nat.min_eq_left hl]⟩
theorem Zqd (h : w.ownsRow base e z v m xs) (hm : 0 < m) : ∃ g c l, v = .slice (some ⟨g, 0, none⟩) m c ∧ base ≤ g ∧ Blk w g e l ∧ m ≤ c ∧ l.length = c * z ∧ l.take (m * z) = xs ∧
  ∀ w' l', Blk w' g e l' → l'.length = c * z → w'.ownsRow base e z v m (l'.take (m * z)) := by
 rcases h.2 with ⟨_, h2⟩ | ⟨g, cap, cur, h1, h2, h3, h4, h5, h6, h7⟩
 ·omega
 ·refine ⟨g, cap, cur.toList, h1, h2, by simpa [Blk] using h3, h4, by simpa using h6, h7, fun w' l' hB hl => ⟨?_, .inr ⟨g, cap, l'.toArray, h1, h2, hB, h4, h5, by simpa using hl, by simp⟩⟩⟩
  rw [List.length_take, hl]
  have := Nat.mul_le_mul_right z h4
  omega
theorem take_set {α : Type} (l : List α) (i n : Nat) (u : α) (h : i < n) : (l.set i u).take n = (l.take n).set i u := by
 rw [List.take_set]
end
def mutR (e : Nat) : Bool := Nat.beq e Uf || (Nat.beq e Wx || Nat.beq e Wdb)
def ckCells (F : Nd) (fv sv sn : Value) (S : CSt) : List Value := ndCells F fv ++ [sv, .int .i64 S.scope, .int .i64 S.level, sn, .int .i64 S.result.kind, Str S.result.name, .int .i64 S.ea, .int .i64 S.ee]
structure CK (F : Nd) (n0 b : Nat) (S : CSt) (fv sv sn : Value) (w : World) : Prop where
 B : Blk w b Uf (ckCells F fv sv sn S)
 hb : n0 ≤ b
 kF : Kd w (fun k => k < n0) F.kids fv
 hF : count F ≤ 1000000
 ov : w.ownsRow n0 Wx 6 sv S.vars.length (S.vars.flatMap vrCells)
 on : w.ownsRow n0 Wdb 1 sn S.next.length (S.next.map fun (k : Nat) => Value.int .i64 (k : Int))
def Chk (F : Nd) (n0 b : Nat) (S : CSt) (w : World) : Prop := ∃ fv sv sn, CK F n0 b S fv sv sn w
section
variable {F : Nd} {n0 b : Nat} {S S' : CSt} {fv sv sn sv' sn' : Value} {w w' w1 w2 : World}
theorem Vba {e e' : TypeId} {z m j : Nat} {v : Value} {xs l : List Value} (h : w.ownsRow n0 e z v m xs) (hB : Blk w j e' l) (he : Nat.beq e e' = false) : v.ownBlock ≠ some j := fun hk => by
 rcases h.2 with ⟨h1, _⟩ | ⟨g, cap, cur, h1, h2, h3, _⟩
 ·rw [h1] at hk; cases hk
 ·rw [h1] at hk
  have : g = j := by injection hk
  subst this
  unfold Blk at hB
  rw [hB] at h3; injection h3 with h3; injection h3 with _ h3; subst h3; simp at he
theorem Zse {e e' : TypeId} {z z' m m' : Nat} {v v' : Value} {xs xs' : List Value} (h : w.ownsRow n0 e z v m xs) (h' : w.ownsRow n0 e' z' v' m' xs') (he : Nat.beq e e' = false) : v.ownBlock = none ∨ v.ownBlock ≠ v'.ownBlock := by
 rcases h.2 with ⟨h1, _⟩ | ⟨g, cap, cur, h1, h2, h3, _⟩
 ·exact .inl (by rw [h1]; rfl)
 ·refine .inr fun hk => ?_
  rcases h'.2 with ⟨h1', _⟩ | ⟨g', cap', cur', h1', h2', h3', _⟩
  ·rw [h1, h1'] at hk; cases hk
  ·rw [h1, h1'] at hk
   have : g = g' := by injection hk
   subst this
   rw [h3] at h3'; injection h3' with h3'; injection h3' with _ h3'; subst h3'; simp at he
theorem Jze {M : Nat → Bool} {e : TypeId} {z m : Nat} {v : Value} {xs : List Value} {row : Option Nat} (h : w.ownsRow n0 e z v m xs) (he : M e = true) (hg : w.grownBy w' row) (hr : ∀ k, row = some k → ¬ TyR M w k) : w'.ownsRow n0 e z v m xs := by
 have ht := Vgb h he
 refine Vy h hg ?_
 rcases h.2 with ⟨h1, _⟩ | ⟨g, cap, cur, h1, _⟩
 ·exact .inl (by rw [h1]; rfl)
 ·refine .inr fun hk => ?_
  have hv : v.ownBlock = some g := by rw [h1]; rfl
  exact hr g (hk.symm.trans hv) (ht g hv).2
theorem Qfb (w : World) (row : Option Nat) : w.grownBy w row := ⟨rfl, rfl, rfl, Nat.le_refl _, fun _ _ _ => rfl⟩
theorem CK.lt (h : CK F n0 b S fv sv sn w) : n0 ≤ b ∧ b < w.heap.size := ⟨h.hb, h.B.lt⟩
theorem CK.grow (h : CK F n0 b S fv sv sn w) (g : G w w') : CK F n0 b S fv sv sn w' := ⟨h.B.grow g, h.hb, h.kF.grow g, h.hF, Us h.ov g, Us h.on g⟩
theorem CK.keepr {row : Option Nat} (h : CK F n0 b S fv sv sn w) (hg : w.grownBy w' row) (hr : ∀ k, row = some k → n0 ≤ k ∧ ¬ TyR mutR w k) : CK F n0 b S fv sv sn w' :=
 ⟨h.B.keep hg (fun e => (hr b e.symm).2 (Xje h.B rfl)), h.hb, h.kF.keep hg fun k hk _ e => by have := (hr k e.symm).1; omega, h.hF, Jze h.ov rfl hg fun k hk => (hr k hk).2, Jze h.on rfl hg fun k hk => (hr k hk).2⟩
theorem Qja (v : Vr) : (vrCells v).length = 6 := rfl
def vr0 : Vr := ⟨[], ty0, 0, 0, 0⟩
def lst (l : List Vr) : Vr := l.getLast?.getD vr0
theorem Wbd {l : List Vr} (h : w.ownsRow n0 Wx 6 sv l.length (l.flatMap vrCells)) : ∃ p c, sv = .slice p l.length c ∧ l.length ≤ c ∧ ∀ i, (hi : i < l.length) → p = some ⟨pb p, po p, none⟩ ∧ RowAt w (pb p) (po p + i * 6) (vrCells l[i]) := by
 obtain ⟨p, c, hv, hc⟩ := Zxb h
 refine ⟨p, c, hv, hc, fun i hi => ?_⟩
 obtain ⟨g, c', hv', _, hR, _⟩ := Qqa h (by omega)
 rw [hv] at hv'; injection hv' with e1 _ _
 subst e1
 exact ⟨rfl, Wcc Qja hR hi⟩
theorem Zaf {l : List Vr} {p : Option Addr} {c : Nat} (h : w.ownsRow n0 Wx 6 (.slice p l.length c) l.length (l.flatMap vrCells)) : w.ownsRow n0 Wx 6 (.slice p l.dropLast.length c) l.dropLast.length (l.dropLast.flatMap vrCells) := by
 have hx := Xoe h (j := l.dropLast.length) (by simp)
 have e : (l.flatMap vrCells).take (l.dropLast.length * 6) = l.dropLast.flatMap vrCells := by
  rcases List.eq_nil_or_concat l with e | ⟨a, x, e⟩
  ·subst e; rfl
  ·subst e
   rw [List.concat_eq_append, List.dropLast_concat, List.flatMap_append, ← Wkb Qja a, List.take_left]
 rwa [e] at hx
theorem CK.chk (h : CK F n0 b S fv sv sn w) : Chk F n0 b S w := ⟨_, _, _, h⟩
theorem Chk.lt (h : Chk F n0 b S w) : n0 ≤ b ∧ b < w.heap.size := by obtain ⟨_, _, _, h⟩ := h; exact h.lt
theorem Chk.grow (h : Chk F n0 b S w) (g : G w w') : Chk F n0 b S w' := by obtain ⟨_, _, _, h⟩ := h; exact (h.grow g).chk
theorem Chk.keepr {row : Option Nat} (h : Chk F n0 b S w) (hg : w.grownBy w' row) (hr : ∀ k, row = some k → n0 ≤ k ∧ ¬ TyR mutR w k) : Chk F n0 b S w' := by obtain ⟨_, _, _, h⟩ := h; exact (h.keepr hg hr).chk
theorem CK.keep {j : Nat} {e : TypeId} {l : List Value} (h : CK F n0 b S fv sv sn w) (hg : w.grownBy w' (some j)) (hB : Blk w j e l) (he : mutR e = false) (hj : n0 ≤ j) : CK F n0 b S fv sv sn w' :=
 h.keepr hg fun k hk => by injection hk with hk; subst hk; exact ⟨hj, Ufd hB he⟩
theorem Chk.keep {j : Nat} {e : TypeId} {l : List Value} (h : Chk F n0 b S w) (hg : w.grownBy w' (some j)) (hB : Blk w j e l) (he : mutR e = false) (hj : n0 ≤ j) : Chk F n0 b S w' := by obtain ⟨_, _, _, h⟩ := h; exact (h.keep hg hB he hj).chk
theorem CK.keepO {X : List Nat} {lo : Nat} {ks : List Nd} {s : Value} (h : CK F n0 b S fv sv sn w) (hg : w.grownBy w' s.ownBlock) (hO : OwnN X lo w ks s) (hj : n0 ≤ lo) : CK F n0 b S fv sv sn w' :=
 h.keepr hg fun k hk => ⟨Nat.le_trans hj (hO.ge k hk), (hO.nd k hk).ntyr rfl⟩
theorem Chk.keepO {X : List Nat} {lo : Nat} {ks : List Nd} {s : Value} (h : Chk F n0 b S w) (hg : w.grownBy w' s.ownBlock) (hO : OwnN X lo w ks s) (hj : n0 ≤ lo) : Chk F n0 b S w' := by obtain ⟨_, _, _, h⟩ := h; exact (h.keepO hg hO hj).chk
theorem CK.set (h : CK F n0 b S fv sv sn w) (hg : w.grownBy w' (some b)) (hB : Blk w' b Uf (ckCells F fv sv sn S')) (hv : S'.vars = S.vars) (hn : S'.next = S.next) : CK F n0 b S' fv sv sn w' :=
 ⟨hB, h.hb, h.kF.keep hg fun k hk _ e => by injection e with e; have := h.hb; omega, h.hF, by rw [hv]; exact Vy h.ov hg (.inr (Vba h.ov h.B rfl)), by rw [hn]; exact Vy h.on hg (.inr (Vba h.on h.B rfl))⟩
theorem CK.rowv (h : CK F n0 b S fv sv sn w) (hg : w.grownBy w1 sv.ownBlock) : Blk w1 b Uf (ckCells F fv sv sn S) ∧ Kd w1 (fun k => k < n0) F.kids fv ∧ w1.ownsRow n0 Wdb 1 sn S.next.length (S.next.map fun (k : Nat) => Value.int .i64 (k : Int)) :=
 ⟨h.B.keep hg (fun e => Vba h.ov h.B rfl e.symm), h.kF.keep hg fun k hk _ e => by have := (Vgb (M := mutR) h.ov rfl k e.symm).1; omega, Vy h.on hg (Zse h.on h.ov rfl)⟩
theorem CK.rown (h : CK F n0 b S fv sv sn w) (hg : w.grownBy w1 sn.ownBlock) : Blk w1 b Uf (ckCells F fv sv sn S) ∧ Kd w1 (fun k => k < n0) F.kids fv ∧ w1.ownsRow n0 Wx 6 sv S.vars.length (S.vars.flatMap vrCells) :=
 ⟨h.B.keep hg (fun e => Vba h.on h.B rfl e.symm), h.kF.keep hg fun k hk _ e => by have := (Vgb (M := mutR) h.on rfl k e.symm).1; omega, Vy h.ov hg (Zse h.ov h.on rfl)⟩
theorem CK.setv (h : CK F n0 b S fv sv sn w) (hg : w.grownBy w1 sv.ownBlock) (hO : w1.ownsRow n0 Wx 6 sv' S'.vars.length (S'.vars.flatMap vrCells)) (hg2 : w1.grownBy w2 (some b)) (hB : Blk w2 b Uf (ckCells F fv sv' sn S')) (hn : S'.next = S.next) : CK F n0 b S' fv sv' sn w2 := by
 obtain ⟨q1, q2, q3⟩ := h.rowv hg
 exact ⟨hB, h.hb, q2.keep hg2 fun k hk _ e => by injection e with e; have := h.hb; omega, h.hF, Vy hO hg2 (.inr (Vba hO q1 rfl)), by rw [hn]; exact Vy q3 hg2 (.inr (Vba q3 q1 rfl))⟩
theorem CK.setn (h : CK F n0 b S fv sv sn w) (hg : w.grownBy w1 sn.ownBlock) (hO : w1.ownsRow n0 Wdb 1 sn' S'.next.length (S'.next.map fun (k : Nat) => Value.int .i64 (k : Int))) (hg2 : w1.grownBy w2 (some b)) (hB : Blk w2 b Uf (ckCells F fv sv sn' S')) (hv : S'.vars = S.vars) : CK F n0 b S' fv sv sn' w2 := by
 obtain ⟨q1, q2, q3⟩ := h.rown hg
 exact ⟨hB, h.hb, q2.keep hg2 fun k hk _ e => by injection e with e; have := h.hb; omega, h.hF, by rw [hv]; exact Vy q3 hg2 (.inr (Vba q3 q1 rfl)), Vy hO hg2 (.inr (Vba hO q1 rfl))⟩
theorem CK.elt (h : CK F n0 b S fv sv sn w) (hg : w.grownBy w1 sn.ownBlock) (hO : w1.ownsRow n0 Wdb 1 sn S'.next.length (S'.next.map fun (k : Nat) => Value.int .i64 (k : Int))) (hS : S' = { S with next := S'.next }) : CK F n0 b S' fv sv sn w1 := by
 obtain ⟨q1, q2, q3⟩ := h.rown hg
 rw [hS]
 exact ⟨q1, h.hb, q2, h.hF, q3, hO⟩
end
structure Bd (S : CSt) (N : Nat) : Prop where
 vl : S.vars.length ≤ N
 nl : S.next.length ≤ N + 1
 nx : ∀ k ∈ S.next, k ≤ N
 lv : S.level < S.next.length
 sc : S.scope ≤ N
 vs : ∀ v ∈ S.vars, v.num ≤ N ∧ v.level ≤ N ∧ v.scope ≤ N
theorem Bd.mono {S : CSt} {N M : Nat} (h : Bd S N) (hm : N ≤ M) : Bd S M :=
 ⟨Nat.le_trans h.vl hm, by have := h.nl; omega, fun k hk => Nat.le_trans (h.nx k hk) hm, h.lv, Nat.le_trans h.sc hm, fun v hv => by have := h.vs v hv; omega⟩
structure Stp (d : Nat) (S S' : CSt) : Prop where
 level : S'.level = S.level
 scope : S'.scope = S.scope
 result : S'.result = S.result
 er : S'.ee = 0 → S.ee = 0
 bd : ∀ N, Bd S N → Bd S' (N + d)
theorem Stp.refl (S : CSt) : Stp 0 S S := ⟨rfl, rfl, rfl, id, fun N h => h⟩
theorem Stp.trans {a b : Nat} {S T U : CSt} (h : Stp a S T) (k : Stp b T U) : Stp (a + b) S U :=
 ⟨k.level.trans h.level, k.scope.trans h.scope, k.result.trans h.result, fun he => h.er (k.er he), fun N hN => by have := k.bd _ (h.bd N hN); rwa [Nat.add_assoc] at this⟩
theorem Stp.mono {a b : Nat} {S T : CSt} (h : Stp a S T) (hb : a ≤ b) : Stp b S T := ⟨h.level, h.scope, h.result, h.er, fun N hN => (h.bd N hN).mono (by omega)⟩
theorem Stp.of {S T : CSt} (h1 : T.vars = S.vars) (h2 : T.scope = S.scope) (h3 : T.level = S.level) (h4 : T.next = S.next) (h5 : T.result = S.result) (h6 : T.ee = 0 → S.ee = 0) : Stp 0 S T :=
 ⟨h3, h2, h5, h6, fun N h => ⟨by rw [h1]; exact h.vl, by rw [h4]; exact h.nl, by rw [h4]; exact h.nx, by rw [h3, h4]; exact h.lv, by rw [h2]; exact h.sc, by rw [h1]; exact h.vs⟩⟩
theorem Yqb (a e : Int) (S : CSt) : (failS a e S).vars = S.vars ∧ (failS a e S).scope = S.scope ∧ (failS a e S).level = S.level ∧ (failS a e S).next = S.next ∧ (failS a e S).result = S.result ∧ ((failS a e S).ee = 0 → S.ee = 0) := by
 unfold failS
 cases h : decide (S.ee = 0)
 ·exact ⟨rfl, rfl, rfl, rfl, rfl, id⟩
 ·exact ⟨rfl, rfl, rfl, rfl, rfl, fun _ => of_decide_eq_true h⟩
theorem Vca (b : Bool) (a e : Int) (S : CSt) : (failU b a e S).vars = S.vars ∧ (failU b a e S).scope = S.scope ∧ (failU b a e S).level = S.level ∧ (failU b a e S).next = S.next ∧ (failU b a e S).result = S.result ∧ ((failU b a e S).ee = 0 → S.ee = 0) := by
 unfold failU; cases b
 ·exact Yqb a e S
 ·exact ⟨rfl, rfl, rfl, rfl, rfl, id⟩
theorem Uae (a e : Int) (S : CSt) : Stp 0 S (failS a e S) := by obtain ⟨h1, h2, h3, h4, h5, h6⟩ := Yqb a e S; exact Stp.of h1 h2 h3 h4 h5 h6
theorem Vlb (b : Bool) (a e : Int) (S : CSt) : Stp 0 S (failU b a e S) := by obtain ⟨h1, h2, h3, h4, h5, h6⟩ := Vca b a e S; exact Stp.of h1 h2 h3 h4 h5 h6
theorem Stp.fail {d : Nat} {S T : CSt} (h : Stp d S T) (a e : Int) : Stp d S (failS a e T) := h.trans (Uae a e T)
theorem Stp.failu {d : Nat} {S T : CSt} (h : Stp d S T) (b : Bool) (a e : Int) : Stp d S (failU b a e T) := h.trans (Vlb b a e T)
theorem Stp.cond {d : Nat} {S T U : CSt} {b : Bool} (h : Stp d S T) (k : Stp d S U) : Stp d S (bif b then T else U) := by cases b <;> assumption
theorem Qxa (F n : Nd) (S : CSt) : Stp 0 S (pointerS F n S) := ((Stp.refl S).failu _ _ _).cond (Stp.refl S)
theorem Xma (F n : Nd) (S : CSt) : Stp 0 S (localS F n S) := (Qxa F n S).failu _ _ _
theorem Wzf {l : List Nat} {i : Nat} {a x : Nat} (h : x ∈ l.set i a) : x ∈ l ∨ x = a := List.mem_or_eq_of_mem_set h
theorem Upd {S : CSt} {N : Nat} (h : Bd S N) : declN S ≤ N := by
 have hl := h.lv
 have : declN S = S.next[S.level] := by rw [declN, List.getD_eq_getElem?_getD, List.getElem?_eq_getElem hl]; rfl
 rw [this]; exact h.nx _ (List.getElem_mem hl)
theorem Jpb (s : List UInt8) (y : Ty) (a : Int) (S : CSt) : Stp 1 S (declS s y a S) := by
 have hq := Vca (!dupV S s) a 6 S
 refine ⟨hq.2.2.1, hq.2.1, hq.2.2.2.2.1, hq.2.2.2.2.2, fun N h => ?_⟩
 have hd := Upd h
 refine ⟨?_, ?_, ?_, ?_, ?_, ?_⟩
 ·show (S.vars ++ [_]).length ≤ _; have := h.vl; simp; omega
 ·show (S.next.set _ _).length ≤ _; have := h.nl; simp; omega
 ·intro k hk
  rcases Wzf (show k ∈ S.next.set S.level (declN S + 1) from hk) with h1 | h1
  ·have := h.nx k h1; omega
  ·omega
 ·show (failU (!dupV S s) a 6 S).level < (S.next.set _ _).length; rw [hq.2.2.1]; have := h.lv; simp; omega
 ·show (failU (!dupV S s) a 6 S).scope ≤ _; rw [hq.2.1]; have := h.sc; omega
 ·intro v hv
  have hv : v ∈ S.vars ++ [⟨s, y, declN S, S.level, S.scope⟩] := hv
  rcases List.mem_append.1 hv with h1 | h1
  ·have := h.vs v h1; omega
  ·obtain rfl := List.mem_singleton.1 h1
   have h2 := h.lv; have h3 := h.nl; have h4 := h.sc
   exact ⟨by show declN S ≤ _; omega, by show S.level ≤ _; omega, by show S.scope ≤ _; omega⟩
theorem Ube (sc : Nat) (l : List Vr) : (dropV sc l).length ≤ l.length := by
 unfold dropV; rw [List.length_reverse]
 have h : (l.reverse.dropWhile fun v => decide (v.scope = sc)).length ≤ l.reverse.length := (List.dropWhile_sublist _).length_le
 rwa [List.length_reverse] at h
theorem Uce {sc : Nat} {l : List Vr} {v : Vr} (h : v ∈ dropV sc l) : v ∈ l := by
 unfold dropV at h
 exact List.mem_reverse.1 ((List.dropWhile_sublist _).subset (List.mem_reverse.1 h))
theorem Zrd {d : Nat} {S T : CSt} (h : Stp d (openS S) T) : Stp (1 + d) S (shutS T) := by
 refine ⟨h.level, ?_, h.result, h.er, fun N hN => ?_⟩
 ·show T.scope - 1 = S.scope; rw [h.scope]; rfl
 ·have h1 : Bd (openS S) (N + 1) := ⟨by have := hN.vl; show S.vars.length ≤ _; omega, by have := hN.nl; show S.next.length ≤ _; omega, fun k hk => by have := hN.nx k hk; omega, hN.lv, by have := hN.sc; show S.scope + 1 ≤ _; omega, fun v hv => by have := hN.vs v hv; omega⟩
  have h2 := h.bd _ h1
  rw [show N + 1 + d = N + (1 + d) by omega] at h2
  refine ⟨Nat.le_trans (Ube _ _) h2.vl, h2.nl, h2.nx, h2.lv, Nat.le_trans (Nat.sub_le _ _) h2.sc, fun v hv => h2.vs v (Uce hv)⟩
theorem Zbf {S : CSt} {N : Nat} (h : Bd S N) : Bd (litS S) (N + 1) := by
 have hl := h.lv
 have hn := h.nl
 refine ⟨by have := h.vl; show S.vars.length ≤ _; omega, ?_, ?_, ?_, by have := h.sc; show S.scope ≤ _; omega, fun v hv => by have := h.vs v hv; omega⟩
 ·show (S.next.take (S.level + 1) ++ [0]).length ≤ _; simp; omega
 ·intro k hk
  rcases List.mem_append.1 (show k ∈ S.next.take (S.level + 1) ++ [0] from hk) with h1 | h1
  ·have := h.nx k (List.mem_of_mem_take h1); omega
  ·simp at h1; omega
 ·show S.level + 1 < (S.next.take (S.level + 1) ++ [0]).length; simp; omega
theorem Vaf {d : Nat} {S T : CSt} (h : Stp d (litS S) T) : Stp (1 + d) S { T with level := T.level - 1, result := S.result } := by
 have hl : T.level = S.level + 1 := h.level
 refine ⟨by show T.level - 1 = _; omega, h.scope, rfl, h.er, fun N hN => ?_⟩
 have h2 := h.bd _ (Zbf hN)
 rw [show N + 1 + d = N + (1 + d) by omega] at h2
 exact ⟨h2.vl, h2.nl, h2.nx, by have := h2.lv; show T.level - 1 < T.next.length; omega, h2.sc, h2.vs⟩
/-! children's counts -/
def cN (t : Nd) (i : Nat) : Nat := (t.kids.map count).getD i 0
def sC (t : Nd) : Nat → Nat
 | 0 => 0
 | i + 1 => sC t i + cN t i
theorem sC_eq (t : Nd) (i : Nat) : sC t i = ((t.kids.map count).take i).sum := by
 induction i with
 | zero => rfl
 | succ i ih =>
  rw [sC, ih, List.take_add_one, cN, List.getD_eq_getElem?_getD, List.sum_append]
  cases (t.kids.map count)[i]? <;> simp
theorem Zqb (t : Nd) (i : Nat) : sC t i + 1 ≤ count t := by
 rw [sC_eq, Jx]; have := Yhc (t.kids.map count) i; omega
theorem Utc {t : Nd} {i : Nat} (h : i < t.kids.length) : cN t i = count (Zd t i) := by
 rw [cN, Wm h]; simp [List.getD_eq_getElem?_getD, List.getElem?_eq_getElem h]
structure CkS (c : Ck) (d : Nat) : Prop where
 ex : ∀ S, Stp d S (c.ex S).2
 mem : ∀ S, Stp d S (c.mem S).2
 cal : ∀ S, Stp d S (c.cal S).2
 st : ∀ S, Stp d S (c.st S).2
 blk : ∀ S, Stp d S (c.blk S).2
 ifs : ∀ S, Stp d S (c.ifs S).2
 sts : ∀ S, Stp d S (c.sts S).2
 cas : ∀ f S, Stp d S (c.cas f S).2
theorem Uuf : CkS ck0 0 := ⟨fun S => Stp.refl S, fun S => Stp.refl S, fun S => Stp.refl S, fun S => Stp.refl S, fun S => Stp.refl S, fun S => Stp.refl S, fun S => Stp.refl S, fun _ S => Stp.refl S⟩
section
variable {F t : Nd} {x : Nat → Ck}
theorem Xpe (X : ∀ i, CkS (x i) (cN t i)) (S : CSt) : Stp (sC t 1) S (memR F t x S).2 := by
 have h : Stp (sC t 1) S ((x 0).ex S).2 := ((X 0).ex S).mono (by simp [sC])
 unfold memR
 dsimp only
 cases decide (((x 0).ex S).1.ty.kind = 4)
 ·exact h.fail _ _
 ·simp only [cond_true]
  split
  ·exact h
  ·exact h.fail _ _
theorem Wgc (X : ∀ i, CkS (x i) (cN t i)) (ps : List Ty) {S T : CSt} (h : Stp (sC t 1) S T) : ∀ i, Stp (sC t (i + 1)) S (argA t x ps T i).2
 | 0 => h
 | i + 1 => ((Wgc X ps h i).trans ((X (i + 1)).ex _)).failu _ _ _
theorem Zcf (X : ∀ i, CkS (x i) (cN t i)) (S : CSt) : Stp (sC t (t.kids.length - 1 + 1)) S (callR t x S).2 :=
 Wgc X _ ((((X 0).cal S).mono (by simp [sC])).failu _ _ _) _
theorem Zdf (X : ∀ i, CkS (x i) (cN t i)) (S : CSt) : Stp (1 + sC t 1) S (litR t x S).2 := Vaf (((X 0).blk _).mono (by simp [sC]))
theorem Whc (X : ∀ i, CkS (x i) (cN t i)) (S : CSt) : Stp (sC t 1) S ((x 0).ex S).2 := ((X 0).ex S).mono (by simp [sC])
theorem Jkf (X : ∀ i, CkS (x i) (cN t i)) (S : CSt) : Stp (sC t 2) S (opR t x S).2 := by
 have h := Whc X S
 have h1 : ∀ T, Stp (sC t 1) S T → Stp (sC t 2) S ((x 1).ex T).2 := fun T hT => hT.trans ((X 1).ex T)
 have hm : ∀ {T}, Stp (sC t 1) S T → Stp (sC t 2) S T := fun hT => hT.mono (Nat.le_add_right _ _)
 unfold opR
 dsimp only [wantS]
 repeat' (first | (generalize decide (t.kind = _) = q; cases q <;> simp only [cond_true, cond_false]))
 all_goals first
  | exact (h1 _ (h.failu _ _ _)).failu _ _ _
  | exact (h1 _ h).failu _ _ _
  | exact hm (h.failu _ _ _)
  | exact hm h
theorem Xqe (X : ∀ i, CkS (x i) (cN t i)) (S : CSt) : Stp (count t) S (exR F t x S).2 := by
 have hc : ∀ i, sC t i + 1 ≤ count t := Zqb t
 have h0 : ∀ {T}, Stp 0 S T → Stp (count t) S T := fun h => h.mono (Nat.zero_le _)
 unfold exR
 cases decide (t.kind = 24)
 case true => exact h0 (Stp.refl S)
 cases decide (t.kind = 25)
 case true => exact h0 (Stp.refl S)
 cases decide (t.kind = 26)
 case true => exact h0 (Stp.refl S)
 cases decide (t.kind = 38)
 case true => exact (Zdf X S).mono (by have := hc 1; omega)
 cases decide (t.kind = 30)
 case true => exact (Zcf X S).mono (by have := hc (t.kids.length - 1 + 1); omega)
 cases decide (t.kind = 27)
 case true => exact h0 (((Stp.refl S).failu _ _ _).cond ((Stp.refl S).fail _ _))
 cases decide (t.kind = 28)
 case true => exact ((Xpe X S).failu _ _ _).mono (by have := hc 1; omega)
 cases decide (t.kind = 34)
 case true => exact h0 ((Stp.refl S).failu _ _ _)
 exact (Jkf X S).mono (by have := hc 2; omega)
theorem Vbf (X : ∀ i, CkS (x i) (cN t i)) (S : CSt) : Stp (count t) S (calR F t x S).2 := by
 have hc := Zqb t 1
 unfold calR
 dsimp only
 cases decide (t.kind = 28) && ((x 0).rcv S).2
 ·simp only [cond_false]
  cases decide (t.kind = 27) && ((lookR F S t).2 && decide ((lookR F S t).1.ref = 3))
  ·exact (Xqe X S).failu _ _ _
  ·exact (Stp.refl S).mono (Nat.zero_le _)
 ·refine Stp.failu ?_ _ _ _
  unfold rcvX
  cases decide ((Zd t 0).kind = 28)
  ·exact (Stp.refl S).mono (Nat.zero_le _)
  ·exact ((X 0).mem S).mono (by simp [sC] at hc; omega)
theorem Wcd (X : ∀ i, CkS (x i) (cN t i)) (S : CSt) : ∀ i, Stp (sC t i) S (stA x S i).2
 | 0 => Stp.refl S
 | i + 1 => (Wcd X S i).trans ((X i).st _)
theorem Xre (X : ∀ i, CkS (x i) (cN t i)) (S : CSt) : Stp (sC t t.kids.length) S (stsR t x S).2 := Wcd X S _
theorem Xse (X : ∀ i, CkS (x i) (cN t i)) (S : CSt) : Stp (count t) S (blkR t x S).2 := (Zrd (Xre X (openS S))).mono (by have := Zqb t t.kids.length; omega)
theorem Uqd (X : ∀ i, CkS (x i) (cN t i)) (k : Nd) {S T : CSt} (h : Stp 0 S T) : Stp (sC t 1) S (condR k (x 0) T).2 := by
 unfold condR
 cases decide (k.kind = 9)
 ·exact (h.trans ((X 0).ex T)).mono (by simp [sC]) |>.failu _ _ _
 ·exact h.mono (Nat.zero_le _)
theorem Zef (X : ∀ i, CkS (x i) (cN t i)) (S : CSt) : Stp (sC t 3) S (ifR t x S).2 := by
 have h1 : Stp (sC t 2) S ((x 1).blk (condR (Zd t 0) (x 0) S).2).2 := (Uqd X _ (Stp.refl S)).trans ((X 1).blk _)
 unfold ifR
 dsimp only
 cases decide ((Zd t 2).kind = 10)
 ·cases decide ((Zd t 2).kind = 18)
  ·exact h1.mono (Nat.le_add_right _ _)
  ·exact h1.trans ((X 2).ifs _)
 ·exact h1.trans ((X 2).blk _)
theorem Vcf (X : ∀ i, CkS (x i) (cN t i)) (S : CSt) : Stp (sC t 2) S (asgR t x S).2 := (((Whc X S).failu _ _ _).trans ((X 1).ex _)).failu _ _ _
theorem Vdf (X : ∀ i, CkS (x i) (cN t i)) (f : Bool) (S : CSt) : Stp (1 + sC t 2) S (casR t x f S).2 := by
 refine Zrd (Stp.trans (a := sC t 1) (T := (bif decide ((Zd t 0).kind = 9) then (clnT (Zd t 0), failU f t.pos 6 (openS S)) else (x 0).st (openS S)).2) ?_ ((X 1).sts _))
 cases decide ((Zd t 0).kind = 9)
 ·exact ((X 0).st _).mono (by simp [sC])
 ·exact ((Stp.refl _).failu _ _ _).mono (Nat.zero_le _)
theorem Uuc (X : ∀ i, CkS (x i) (cN t i)) (S : CSt) : ∀ i, Stp (sC t i) S (selA t x S i).2.2
 | 0 => Stp.refl S
 | i + 1 => (Uuc X S i).trans ((X i).cas _ _)
theorem Vef (X : ∀ i, CkS (x i) (cN t i)) (S : CSt) : Stp (1 + sC t 2) S (varR F t x S).2 := by
 unfold varR
 dsimp only
 cases decide ((Zd t 1).kind = 9)
 ·exact (((((Xma F _ S).trans ((X 1).ex _)).failu _ _ _).trans (Jpb _ _ _ _)).mono (by simp [sC]; omega))
 ·exact ((Xma F _ S).trans (Jpb _ _ _ _)).mono (by omega)
theorem Vff (X : ∀ i, CkS (x i) (cN t i)) (S : CSt) : Stp (1 + sC t 1) S (defR t x S).2 := (((Whc X S).failu _ _ _).trans (Jpb _ _ _ _)).mono (by omega)
theorem Vgf (X : ∀ i, CkS (x i) (cN t i)) (S : CSt) : Stp (sC t 2) S (forR t x S).2 := (Uqd X _ (Stp.refl S)).trans ((X 1).blk _)
theorem Vhf (X : ∀ i, CkS (x i) (cN t i)) (S : CSt) : Stp (sC t 1) S (retR t x S).2 := by
 unfold retR
 dsimp only
 cases decide ((t.kids.length : Int) = 1)
 ·exact ((Stp.refl S).failu _ _ _).mono (Nat.zero_le _)
 ·exact ((((Stp.refl S).failu _ _ _).trans ((X 0).ex _)).mono (by simp [sC])).failu _ _ _
theorem Vif (X : ∀ i, CkS (x i) (cN t i)) (S : CSt) : Stp (count t) S (stR F t x S).2 := by
 have hc : ∀ i, sC t i + 1 ≤ count t := Zqb t
 unfold stR
 dsimp only
 cases decide (t.kind = 10)
 case true => exact Xse X S
 cases decide (t.kind = 18)
 case true => exact (Zef X S).mono (by have := hc 3; omega)
 cases decide (t.kind = 12)
 case true => exact (Vcf X S).mono (by have := hc 2; omega)
 cases decide (t.kind = 22)
 case true => exact (Uuc X S _).mono (by have := hc t.kids.length; omega)
 cases decide (t.kind = 6)
 case true => exact (Vef X S).mono (by have := hc 2; omega)
 cases decide (t.kind = 11)
 case true => exact (Vff X S).mono (by have := hc 1; omega)
 cases decide (t.kind = 19)
 case true => exact (Vgf X S).mono (by have := hc 2; omega)
 cases decide (t.kind = 20)
 case true => exact (Vhf X S).mono (by have := hc 1; omega)
 have h := Whc X S
 simp only [cond_false, wantS]
 cases decide (t.kind = 16)
 case true => exact (((h.failu _ _ _).trans ((X 1).ex _)).failu _ _ _).mono (by have := hc 2; simp only [sC] at this ⊢; omega)
 cases decide (t.kind = 17)
 case true => exact (h.failu _ _ _).mono (by have := hc 1; omega)
 cases decide (t.kind = 21)
 case true => exact (h.failu _ _ _).mono (by have := hc 1; omega)
 exact h.mono (by have := hc 1; omega)
theorem cks_f (X : ∀ i, CkS (x i) (cN t i)) : CkS (ckF F t x) (count t) :=
 ⟨Xqe X, fun S => (Xpe X S).mono (by have := Zqb t 1; omega), Vbf X, Vif X, Xse X, fun S => (Zef X S).mono (by have := Zqb t 3; omega), fun S => (Xre X S).mono (by have := Zqb t t.kids.length; omega), fun f S => (Vdf X f S).mono (by have := Zqb t 2; omega)⟩
end
theorem Uba (F : Nd) : ∀ t, CkS (ckT F t) (count t) := by
 refine Nd.ind fun t ih => ?_
 rw [Qw]
 refine cks_f fun i => ?_
 by_cases h : i < t.kids.length
 ·rw [Uo h, Utc h, Wm h]; exact ih _ (List.getElem_mem h)
 ·rw [ckX, cN]; simp only [List.getD_eq_getElem?_getD, List.getElem?_map]; rw [List.getElem?_eq_none (by omega)]; exact Uuf
theorem Zsd (F t : Nd) (i : Nat) : CkS (ckX F t i) (cN t i) := by
 by_cases h : i < t.kids.length
 ·rw [Uo h, Utc h]; exact Uba F _
 ·rw [ckX, cN]; simp only [List.getD_eq_getElem?_getD, List.getElem?_map]; rw [List.getElem?_eq_none (by omega)]; exact Uuf
set_option maxRecDepth 100000 in
set_option maxHeartbeats 4000000 in
theorem Urd (t : Nd) (w : World) (h0 : t.kids = []) : Ret PP Yxd #[ndV t (.slice none 0 0)] w fun r w' => r = ndV (stripT t) (.slice none 0 0) ∧ G w w' := by
 obtain ⟨k, x, n, a, ks, y, r, u⟩ := t
 obtain rfl : ks = [] := h0
 obtain ⟨t, ht⟩ : ∃ t, t = Nd.mk k x n a [] y r u := ⟨_, rfl⟩
 have h0 : (0 : Nat) = t.kids.length := by rw [ht]; rfl
 rw [← ht]
 have g := G.refl w
 refine Yp (m := 34) Vhc J J [(0, True, _)] (Za J (Zj _)) ?_
 refine Ze (Zg (Wq J (Zk J) J ?_))
 intro b1 w1 N1
 have l1 := N1.ge g
 have g := g.trans N1.g
 have E := (Wo _).new N1
 refine Yh J Zm J ?_
 intro b2 w2 N2
 have l2 := N2.ge g
 have g := g.trans N2.g
 replace E := E.new N2
 refine Zb (kq (Ze (Zg (Zx Yd J (Yg Zu J (E.g1.at_ J) (Zx Ym J (Yg Yr J (E.g1.at_ J) (Uc Zm Wl (pqc J (pqc J pq0)) J J (Yh J Zm J ?_)))))))))
 intro b3 w3 N3
 have l3 := N3.ge g
 have g := g.trans N3.g
 replace E := E.new N3
 refine Yt Zl J J J E.g0 ?_
 intro wS1 hgS1 _ BS
 replace E := E.s0 hgS1 BS
 have g := Zw g hgS1 (by omega)
 refine Zb (kq (Ze (Ze (Zg (Yk Zc J J E.g2.row (Xk J (Zo Ujb Yo (aqc J aq0) J) ((by have := Urc t none 0; rw [← h0] at this; exact this _)) (fun w11 g11 => ?_)))))))
 have g := g.trans g11
 replace E := E.grow g11
 refine Zb (kq (Yv J (fun h1 => ?_) (fun h1 => ?_)))
 ·replace h1 : countsB t = true := h1
  refine Zg (Zx Xl J (Yg Zu J (E.g2.at_ J) (Zx Xl J (Vz Vb J J J E.g0 ?_))))
  intro wS2 hgS2 _ BS
  replace E := E.s0 hgS2 BS
  have g := Zw g hgS2 (by omega)
  refine Zb (kq (Ze (Ze (Zg (?_)))))
  have B3 : Blk wS2 b3 Vd (ndCells (stripT t) (.slice none 0 0)) := by
   have h := E.g0
   rw [Wsb, numS, h1]; exact h
  replace E := E.r0 B3
  refine Zp J (Zb (kq (Yu (?_))))
  have hnd1 := E.1
  refine Jy (fun (i : Nat) u1 => (i = 0 ∧ Blk u1 b3 Vd (ndCells (stripT t) (.slice none 0 0))) ∧ G w u1) _ [(1, True, _), (2, True, _), (3, True, _)] (fun (i : Nat) => [(4, True, .int .i64 i)]) (fun (i : Nat) => 0) (0) ⟨⟨rfl, E.g0⟩, g⟩ (Xr (blkE E.g2) (Xr (blkE E.g1) (Ua _))) (Za rfl (Za rfl (Za rfl (Za rfl (Zj _))))) ?_
  clear E
  rintro i u1 ⟨hI1, gl1⟩ ⟨B1, B2, _⟩
  replace B1 : Blk _ _ _ _ := B1
  replace B2 : Blk _ _ _ _ := B2
  have g := gl1
  obtain ⟨hi, B3⟩ := hI1
  subst hi
  have E := Uwa (L := [(b3, _, _), (b2, _, _), (b1, _, _)]) hnd1 ⟨B3, B2, B1, trivial⟩ rfl
  refine Ze (Ze (Zg (Zt J (Zx Zi J (Yg Zh J (E.g2.at_ J) (Qu Zf J (Zfa J J (Zb (kq (Yv J (fun h2 => ?_) (fun h2 => ?_)))))))))))
  ·exfalso; simp only [decide_eq_true_eq] at h2; omega
   done
  refine Vq J (kq (Ze (Zg (Yk Zc J J E.g0.row (Yt Zl J J J E.g1 ?_)))))
  intro wS3 hgS3 _ BS
  replace E := E.s1 hgS3 BS
  have g := Zw g hgS3 (by omega)
  refine Zb (kq (Zr (Xj J (Yy J Zc J (E.g1.row) (Yf)) ?_)))
  exact ⟨rfl, g⟩
 replace h1 : countsB t = false := h1
 refine Yc (kq (Ze (Ze (Zg (?_)))))
 have B3 : Blk w11 b3 Vd (ndCells (stripT t) (.slice none 0 0)) := by
  have h := E.g0
  rw [Wsb, numS, h1]; exact h
 replace E := E.r0 B3
 refine Zp J (Zb (kq (Yu (?_))))
 have hnd1 := E.1
 refine Jy (fun (i : Nat) u1 => (i = 0 ∧ Blk u1 b3 Vd (ndCells (stripT t) (.slice none 0 0))) ∧ G w u1) _ [(1, True, _), (2, True, _), (3, True, _)] (fun (i : Nat) => [(4, True, .int .i64 i)]) (fun (i : Nat) => 0) (0) ⟨⟨rfl, E.g0⟩, g⟩ (Xr (blkE E.g2) (Xr (blkE E.g1) (Ua _))) (Za rfl (Za rfl (Za rfl (Za rfl (Zj _))))) ?_
 clear E
 rintro i u1 ⟨hI1, gl1⟩ ⟨B1, B2, _⟩
 replace B1 : Blk _ _ _ _ := B1
 replace B2 : Blk _ _ _ _ := B2
 have g := gl1
 obtain ⟨hi, B3⟩ := hI1
 subst hi
 have E := Uwa (L := [(b3, _, _), (b2, _, _), (b1, _, _)]) hnd1 ⟨B3, B2, B1, trivial⟩ rfl
 refine Ze (Ze (Zg (Zt J (Zx Zi J (Yg Zh J (E.g2.at_ J) (Qu Zf J (Zfa J J (Zb (kq (Yv J (fun h2 => ?_) (fun h2 => ?_)))))))))))
 ·exfalso; simp only [decide_eq_true_eq] at h2; omega
  done
 refine Vq J (kq (Ze (Zg (Yk Zc J J E.g0.row (Yt Zl J J J E.g1 ?_)))))
 intro wS2 hgS2 _ BS
 replace E := E.s1 hgS2 BS
 have g := Zw g hgS2 (by omega)
 refine Zb (kq (Zr (Xj J (Yy J Zc J (E.g1.row) (Yf)) ?_)))
 exact ⟨rfl, g⟩
theorem Vjf {t : Nd} (h : ((decide (t.kind = 9) && decide (t.text = [])) && leafB t) = true) : ofF t = (ty0, true) := by
  simp only [Bool.and_eq_true] at h
  unfold ofF
  rw [h.2, h.1.1, h.1.2]; rfl
theorem Jlf {t : Nd} (h : ((decide (t.kind = 9) && decide (t.text = [])) && leafB t) = false) (h2 : isTypeB t = false) : ofF t = (ty0, false) := by
  unfold ofF
  unfold isTypeB at h2
  cases h3 : leafB t
  · rfl
  · rw [h3, Bool.and_true] at h
    simp only [Bool.not_true, cond_false]
    cases h4 : decide (t.kind = 9)
    · simp only [cond_false]
      cases h5 : decide (t.kind = 8)
      · simp only [cond_false]
        cases h6 : decide (t.kind = 7)
        · rfl
        · rw [h5, h6, h3] at h2
          simp only [cond_true, cond_false, Bool.and_true] at h2
          rw [h2]; rfl
      · rw [h5, h3, Bool.and_true] at h2
        simp only [cond_true] at h2
        rw [h2]; rfl
    · rw [h4, Bool.true_and] at h
      rw [h]; rfl
theorem Jmf {t : Nd} (h2 : isTypeB t = true) (h3 : decide (t.kind = 8) = true) : ofF t = (⟨4, t.text⟩, true) := by
  unfold isTypeB at h2
  rw [h3, cond_true, Bool.and_eq_true] at h2
  have hk := of_decide_eq_true h3
  unfold ofF
  rw [h2.2, h3, h2.1, Yeg (by omega : ¬ t.kind = 9)]; rfl
theorem Jpa {t : Nd} (h2 : isTypeB t = true) (h3 : decide (t.kind = 8) = false) : ofF t = (⟨typKind t.text, []⟩, true) ∧ typeNameB t.text = true := by
  unfold isTypeB at h2
  rw [h3, cond_false] at h2
  cases h4 : decide (t.kind = 7)
  · rw [h4] at h2; cases h2
  · rw [h4, cond_true, Bool.and_eq_true] at h2
    have hk := of_decide_eq_true h4
    unfold ofF
    rw [h2.2, h3, h4, h2.1, Yeg (by omega : ¬ t.kind = 9)]
    exact ⟨rfl, rfl⟩
theorem Yrb (t : Nd) (p : Option Addr) (c : Nat) (w : World) : Ret PP Vae #[ndV t (.slice p t.kids.length c)] w fun v w' => v = .tuple #[tyV (ofF t).1, .bool (ofF t).2] ∧ G w w' := by
  have g := G.refl w
  refine Yp (m := 59) Vgd J J [(0, True, _)] (Za J (Zj _)) ?_
  refine Ze (Zg (Wq J (Zk J) J ?_))
  intro b1 w1 N1
  have l1 := N1.ge g
  have g := g.trans N1.g
  have E := (Wo _).new N1
  refine Yh J Yq J ?_
  intro b2 w2 N2
  have l2 := N2.ge g
  have g := g.trans N2.g
  replace E := E.new N2
  refine Zp J (Zb (kq (Ze (Ze (Zg (Zx Yd J (Yg Zu J (E.g1.at_ J) (Xt J J (Zt J (Zn J J J (fun _ => Zv Ym (Zk J)) (Yj J J J (Ye Yr (Zq J id) (fun _ => E.g1.at_ J)) (Zn J J J (fun _ => Yya (Zq J id) Xy) (Yi J (fun _ => Zz (Zk J) (Zq J id)) (Zt J (Zn J J J (fun _ => Zv Zi (Zk J)) (Yj J J J (Ye Zh (Zq J id) (fun _ => E.g1.at_ J)) (?_)))))))))))))))))
  refine Zn J J J (fun _ => Zea Zf (Zq J id)) (Zn J J J (fun _ => Vt (Zq J id) Xy) (Yi J (fun _ => Zz (Zk J) (Zq J id)) (Zb (kq (Yv J (fun h1 => ?_) (fun h1 => ?_))))))
  · replace h1 : ((decide (t.kind = 9) && decide (t.text = [])) && leafB t) = true := h1
    refine Ze (Zg (Uc Yq Xv pq0 J J (Yt Yn J J J E.g0 ?_)))
    intro wS1 hgS1 _ BS
    replace E := E.s0 hgS1 BS
    have g := Zw g hgS1 (by omega)
    refine Zp J (Zb (kq (Zr (Wb (rs := [.cell 2 24, .tmp 3]) (vs := [_, _]) J J (Yy J Zs J (E.g0.row) (Wg J (Yf))) J ?_))))
    rw [Vjf h1]; exact ⟨rfl, g⟩
  replace h1 : ((decide (t.kind = 9) && decide (t.text = [])) && leafB t) = false := h1
  refine Yc (kq (Ze (Ze (Zg (Yk Zc J J E.g1.row (Xk J (Zo Vja Yo (aqc J aq0) J) (Vib _ _ _ _) (fun w20 g20 => ?_)))))))
  have g := g.trans g20
  replace E := E.grow g20
  refine Wia J (Zb (kq (Yv J (fun h2 => ?_) (fun h2 => ?_))))
  · (try simp only [Xq] at h2)
    refine Ze (Zg (Uc Yq Xv pq0 J J (Yt Yn J J J E.g0 ?_)))
    intro wS2 hgS2 _ BS
    replace E := E.s0 hgS2 BS
    have g := Zw g hgS2 (by omega)
    refine Zp J (Zb (kq (Zr (Wb (rs := [.cell 2 24, .tmp 3]) (vs := [_, _]) J J (Yy J Zs J (E.g0.row) (Wg J (Yf))) J ?_))))
    rw [Jlf h1 (by simpa using h2)]; exact ⟨rfl, g⟩
  have hty : isTypeB t = true := by simpa using h2
  refine Yc (kq (Ze (Ze (Zg (Zx Yd J (Yg Zu J (E.g1.at_ J) (Xt J J (Zb (kq (Yv J (fun h3 => ?_) (fun h3 => ?_)))))))))))
  · (try simp only [Xq] at h3)
    refine Ze (Zg (Zx Ym J (Yg Yr J (E.g1.at_ J) (Uc Yq Xv (pqc J (pqc J pq0)) J J (Yt Yn J J J E.g0 ?_)))))
    intro wS3 hgS3 _ BS
    replace E := E.s0 hgS3 BS
    have g := Zw g hgS3 (by omega)
    refine Zp J (Zb (kq (Zr (Wb (rs := [.cell 2 24, .tmp 3]) (vs := [_, _]) J J (Yy J Zs J (E.g0.row) (Wg J (Yf))) J ?_))))
    rw [Jmf hty h3]; exact ⟨rfl, g⟩
  refine Yc (kq (Ze (Ze (Zg (Zx Ym J (Yg Yr J (E.g1.at_ J) (Zb (kq (Yu (Ze (Zg (Wi J J (Zp J (Zb (kq (Yv J (fun h4 => ?_) (fun h4 => ?_)))))))))))))))))
  · (try simp only [Xq] at h4)
    refine Ze (Zg (Uc Yq Xv (pqc J pq0) J J (Yt Yn J J J E.g0 ?_)))
    intro wS4 hgS4 _ BS
    replace E := E.s0 hgS4 BS
    have g := Zw g hgS4 (by omega)
    refine Zp J (Zb (kq (Zr (Wb (rs := [.cell 2 24, .tmp 3]) (vs := [_, _]) J J (Yy J Zs J (E.g0.row) (Wg J (Yf))) J ?_))))
    obtain ⟨e, hn⟩ := Jpa hty h3
    rw [e]
    have hx := h4
    refine ⟨?_, g⟩
    first
    | (have e2 := of_decide_eq_true hx; rw [e2]; rfl)
    | (have hm := (Yba _ _).1 hn
       simp only [Qg, List.mem_cons, List.not_mem_nil, or_false] at hm
       simp only [decide_eq_false_iff_not] at h4 h5 h6 h7 h8 h9 h10 h11 h12
       have e2 : t.text = [97, 116, 111, 109, 105, 99] := by simpa only [h4, h5, h6, h7, h8, h9, h10, h11, h12, false_or] using hm
       rw [e2]; rfl)
  refine Ze (Zg (Wi J J (Zp J (Zb (kq (Yv J (fun h5 => ?_) (fun h5 => ?_)))))))
  · (try simp only [Xq] at h5)
    refine Ze (Zg (Uc Yq Xv (pqc J pq0) J J (Yt Yn J J J E.g0 ?_)))
    intro wS5 hgS5 _ BS
    replace E := E.s0 hgS5 BS
    have g := Zw g hgS5 (by omega)
    refine Zp J (Zb (kq (Zr (Wb (rs := [.cell 2 24, .tmp 3]) (vs := [_, _]) J J (Yy J Zs J (E.g0.row) (Wg J (Yf))) J ?_))))
    obtain ⟨e, hn⟩ := Jpa hty h3
    rw [e]
    have hx := h5
    refine ⟨?_, g⟩
    first
    | (have e2 := of_decide_eq_true hx; rw [e2]; rfl)
    | (have hm := (Yba _ _).1 hn
       simp only [Qg, List.mem_cons, List.not_mem_nil, or_false] at hm
       simp only [decide_eq_false_iff_not] at h4 h5 h6 h7 h8 h9 h10 h11 h12
       have e2 : t.text = [97, 116, 111, 109, 105, 99] := by simpa only [h4, h5, h6, h7, h8, h9, h10, h11, h12, false_or] using hm
       rw [e2]; rfl)
  refine Ze (Zg (Wi J J (Zp J (Zb (kq (Yv J (fun h6 => ?_) (fun h6 => ?_)))))))
  · (try simp only [Xq] at h6)
    refine Ze (Zg (Uc Yq Xv (pqc J pq0) J J (Yt Yn J J J E.g0 ?_)))
    intro wS6 hgS6 _ BS
    replace E := E.s0 hgS6 BS
    have g := Zw g hgS6 (by omega)
    refine Zp J (Zb (kq (Zr (Wb (rs := [.cell 2 24, .tmp 3]) (vs := [_, _]) J J (Yy J Zs J (E.g0.row) (Wg J (Yf))) J ?_))))
    obtain ⟨e, hn⟩ := Jpa hty h3
    rw [e]
    have hx := h6
    refine ⟨?_, g⟩
    first
    | (have e2 := of_decide_eq_true hx; rw [e2]; rfl)
    | (have hm := (Yba _ _).1 hn
       simp only [Qg, List.mem_cons, List.not_mem_nil, or_false] at hm
       simp only [decide_eq_false_iff_not] at h4 h5 h6 h7 h8 h9 h10 h11 h12
       have e2 : t.text = [97, 116, 111, 109, 105, 99] := by simpa only [h4, h5, h6, h7, h8, h9, h10, h11, h12, false_or] using hm
       rw [e2]; rfl)
  refine Ze (Zg (Wi J J (Zp J (Zb (kq (Yv J (fun h7 => ?_) (fun h7 => ?_)))))))
  · (try simp only [Xq] at h7)
    refine Ze (Zg (Uc Yq Xv (pqc J pq0) J J (Yt Yn J J J E.g0 ?_)))
    intro wS7 hgS7 _ BS
    replace E := E.s0 hgS7 BS
    have g := Zw g hgS7 (by omega)
    refine Zp J (Zb (kq (Zr (Wb (rs := [.cell 2 24, .tmp 3]) (vs := [_, _]) J J (Yy J Zs J (E.g0.row) (Wg J (Yf))) J ?_))))
    obtain ⟨e, hn⟩ := Jpa hty h3
    rw [e]
    have hx := h7
    refine ⟨?_, g⟩
    first
    | (have e2 := of_decide_eq_true hx; rw [e2]; rfl)
    | (have hm := (Yba _ _).1 hn
       simp only [Qg, List.mem_cons, List.not_mem_nil, or_false] at hm
       simp only [decide_eq_false_iff_not] at h4 h5 h6 h7 h8 h9 h10 h11 h12
       have e2 : t.text = [97, 116, 111, 109, 105, 99] := by simpa only [h4, h5, h6, h7, h8, h9, h10, h11, h12, false_or] using hm
       rw [e2]; rfl)
  refine Ze (Zg (Wi J J (Zp J (Zb (kq (Yv J (fun h8 => ?_) (fun h8 => ?_)))))))
  · (try simp only [Xq] at h8)
    refine Ze (Zg (Uc Yq Xv (pqc J pq0) J J (Yt Yn J J J E.g0 ?_)))
    intro wS8 hgS8 _ BS
    replace E := E.s0 hgS8 BS
    have g := Zw g hgS8 (by omega)
    refine Zp J (Zb (kq (Zr (Wb (rs := [.cell 2 24, .tmp 3]) (vs := [_, _]) J J (Yy J Zs J (E.g0.row) (Wg J (Yf))) J ?_))))
    obtain ⟨e, hn⟩ := Jpa hty h3
    rw [e]
    have hx := h8
    refine ⟨?_, g⟩
    first
    | (have e2 := of_decide_eq_true hx; rw [e2]; rfl)
    | (have hm := (Yba _ _).1 hn
       simp only [Qg, List.mem_cons, List.not_mem_nil, or_false] at hm
       simp only [decide_eq_false_iff_not] at h4 h5 h6 h7 h8 h9 h10 h11 h12
       have e2 : t.text = [97, 116, 111, 109, 105, 99] := by simpa only [h4, h5, h6, h7, h8, h9, h10, h11, h12, false_or] using hm
       rw [e2]; rfl)
  refine Ze (Zg (Wi J J (Zp J (Zb (kq (Yv J (fun h9 => ?_) (fun h9 => ?_)))))))
  · (try simp only [Xq] at h9)
    refine Ze (Zg (Uc Yq Xv (pqc J pq0) J J (Yt Yn J J J E.g0 ?_)))
    intro wS9 hgS9 _ BS
    replace E := E.s0 hgS9 BS
    have g := Zw g hgS9 (by omega)
    refine Zp J (Zb (kq (Zr (Wb (rs := [.cell 2 24, .tmp 3]) (vs := [_, _]) J J (Yy J Zs J (E.g0.row) (Wg J (Yf))) J ?_))))
    obtain ⟨e, hn⟩ := Jpa hty h3
    rw [e]
    have hx := h9
    refine ⟨?_, g⟩
    first
    | (have e2 := of_decide_eq_true hx; rw [e2]; rfl)
    | (have hm := (Yba _ _).1 hn
       simp only [Qg, List.mem_cons, List.not_mem_nil, or_false] at hm
       simp only [decide_eq_false_iff_not] at h4 h5 h6 h7 h8 h9 h10 h11 h12
       have e2 : t.text = [97, 116, 111, 109, 105, 99] := by simpa only [h4, h5, h6, h7, h8, h9, h10, h11, h12, false_or] using hm
       rw [e2]; rfl)
  refine Ze (Zg (Wi J J (Zp J (Zb (kq (Yv J (fun h10 => ?_) (fun h10 => ?_)))))))
  · (try simp only [Xq] at h10)
    refine Ze (Zg (Uc Yq Xv (pqc J pq0) J J (Yt Yn J J J E.g0 ?_)))
    intro wS10 hgS10 _ BS
    replace E := E.s0 hgS10 BS
    have g := Zw g hgS10 (by omega)
    refine Zp J (Zb (kq (Zr (Wb (rs := [.cell 2 24, .tmp 3]) (vs := [_, _]) J J (Yy J Zs J (E.g0.row) (Wg J (Yf))) J ?_))))
    obtain ⟨e, hn⟩ := Jpa hty h3
    rw [e]
    have hx := h10
    refine ⟨?_, g⟩
    first
    | (have e2 := of_decide_eq_true hx; rw [e2]; rfl)
    | (have hm := (Yba _ _).1 hn
       simp only [Qg, List.mem_cons, List.not_mem_nil, or_false] at hm
       simp only [decide_eq_false_iff_not] at h4 h5 h6 h7 h8 h9 h10 h11 h12
       have e2 : t.text = [97, 116, 111, 109, 105, 99] := by simpa only [h4, h5, h6, h7, h8, h9, h10, h11, h12, false_or] using hm
       rw [e2]; rfl)
  refine Ze (Zg (Wi J J (Zp J (Zb (kq (Yv J (fun h11 => ?_) (fun h11 => ?_)))))))
  · (try simp only [Xq] at h11)
    refine Ze (Zg (Uc Yq Xv (pqc J pq0) J J (Yt Yn J J J E.g0 ?_)))
    intro wS11 hgS11 _ BS
    replace E := E.s0 hgS11 BS
    have g := Zw g hgS11 (by omega)
    refine Zp J (Zb (kq (Zr (Wb (rs := [.cell 2 24, .tmp 3]) (vs := [_, _]) J J (Yy J Zs J (E.g0.row) (Wg J (Yf))) J ?_))))
    obtain ⟨e, hn⟩ := Jpa hty h3
    rw [e]
    have hx := h11
    refine ⟨?_, g⟩
    first
    | (have e2 := of_decide_eq_true hx; rw [e2]; rfl)
    | (have hm := (Yba _ _).1 hn
       simp only [Qg, List.mem_cons, List.not_mem_nil, or_false] at hm
       simp only [decide_eq_false_iff_not] at h4 h5 h6 h7 h8 h9 h10 h11 h12
       have e2 : t.text = [97, 116, 111, 109, 105, 99] := by simpa only [h4, h5, h6, h7, h8, h9, h10, h11, h12, false_or] using hm
       rw [e2]; rfl)
  refine Ze (Zg (Wi J J (Zp J (Zb (kq (Yv J (fun h12 => ?_) (fun h12 => ?_)))))))
  · (try simp only [Xq] at h12)
    refine Ze (Zg (Uc Yq Xv (pqc J pq0) J J (Yt Yn J J J E.g0 ?_)))
    intro wS12 hgS12 _ BS
    replace E := E.s0 hgS12 BS
    have g := Zw g hgS12 (by omega)
    refine Zp J (Zb (kq (Zr (Wb (rs := [.cell 2 24, .tmp 3]) (vs := [_, _]) J J (Yy J Zs J (E.g0.row) (Wg J (Yf))) J ?_))))
    obtain ⟨e, hn⟩ := Jpa hty h3
    rw [e]
    have hx := h12
    refine ⟨?_, g⟩
    first
    | (have e2 := of_decide_eq_true hx; rw [e2]; rfl)
    | (have hm := (Yba _ _).1 hn
       simp only [Qg, List.mem_cons, List.not_mem_nil, or_false] at hm
       simp only [decide_eq_false_iff_not] at h4 h5 h6 h7 h8 h9 h10 h11 h12
       have e2 : t.text = [97, 116, 111, 109, 105, 99] := by simpa only [h4, h5, h6, h7, h8, h9, h10, h11, h12, false_or] using hm
       rw [e2]; rfl)
  refine Yc (kq (Ze (Zg (Uc Yq Xv (pqc J pq0) J J (Yt Yn J J J E.g0 ?_)))))
  intro wS13 hgS13 _ BS
  replace E := E.s0 hgS13 BS
  have g := Zw g hgS13 (by omega)
  refine Zp J (Zb (kq (Zr (Wb (rs := [.cell 2 24, .tmp 3]) (vs := [_, _]) J J (Yy J Zs J (E.g0.row) (Wg J (Yf))) J ?_))))
  obtain ⟨e, hn⟩ := Jpa hty h3
  rw [e]
  have hx := h12
  refine ⟨?_, g⟩
  first
  | (have e2 := of_decide_eq_true hx; rw [e2]; rfl)
  | (have hm := (Yba _ _).1 hn
     simp only [Qg, List.mem_cons, List.not_mem_nil, or_false] at hm
     simp only [decide_eq_false_iff_not] at h4 h5 h6 h7 h8 h9 h10 h11 h12
     have e2 : t.text = [97, 116, 111, 109, 105, 99] := by simpa only [h4, h5, h6, h7, h8, h9, h10, h11, h12, false_or] using hm
     rw [e2]; rfl)
theorem Zte (t : Nd) (name : List UInt8) (v : Value) (D : Nat → Prop) (w : World) (hk : Kd w D t.kids v) (hc : count t ≤ 1000000) : Ret PP Jhc #[ndV t v, Str name] w fun r w' => FldV (Qn t name) r w' ∧ G w w' := by
  obtain ⟨p, c, rfl, hcap, hks⟩ := hk
  have g := G.refl w
  have hlen := Qt t
  refine Yp (m := 73) Xrc J J [(0, True, _), (1, True, _)] (Za J (Za J (Zj _))) ?_
  refine Ze (Zg (Wq J (Zk J) J ?_))
  intro b2 w2 N2
  have l2 := N2.ge g
  have g := g.trans N2.g
  have E := (Wo _).new N2
  refine Zp J (Zp J (Zb (kq (Ze (Ze (Zg (Zp J (Zb (kq (Yu (Qq (fun (i : Nat) u1 => (i ≤ t.kids.length ∧ ∀ j, (hj : j < t.kids.length) → j < i → isStr name t.kids[j] = false) ∧ G w2 u1) [(1, True, _), (2, True, _)] (fun (i : Nat) => [(6, True, .int .i64 i)]) (fun (i : Nat) => t.kids.length - i) (0) ⟨⟨Nat.zero_le _, fun j _ hj => absurd hj (Nat.not_lt_zero j)⟩, G.refl _⟩ (Za J (Za J (Za J (Zj _)))) ?_)))))))))))
  rintro i u1 ⟨hI1, gl1⟩
  have g := g.trans gl1
  replace E := E.grow gl1
  refine Ze (Ze (Zg (Zt J (Zx Zi J (Yg Zh J (E.g0.at_ J) (Qu Zf J (Zfa J J (Zb (kq (Yv J (fun h1 => ?_) (fun h1 => ?_)))))))))))
  · replace h1 : i < t.kids.length := by simp only [decide_eq_true_eq] at h1; omega
    obtain ⟨b, o, rfl, hD, xs, hR, hX⟩ := hks (by omega)
    obtain ⟨p', c', hcell, hkid⟩ := Qta hR hX h1
    have hck := Xka h1
    have hkl := Qt t.kids[i]
    refine Yc (kq (Ze (Yu (Ze (Zg (Zx Zi J (Yg Zh J (E.g0.at_ J) (Zt J (Jta Zf J J (by omega) (Yk Zc J J (hcell.grow g) (Yh J Zm J ?_)))))))))))
    intro b7 w7 N7
    have l7 := N7.ge g
    have l7_gl1 := N7.ge gl1
    have g := g.trans N7.g
    have gl1 := gl1.trans (N7.g)
    replace E := E.new N7
    refine Yt Zl J J J E.g0 ?_
    intro wS1 hgS1 _ BS
    replace E := E.s0 hgS1 BS
    have g := Zw g hgS1 (by omega)
    first | replace gl1 := Zw gl1 hgS1 (by omega) | clear gl1 | skip
    refine Zb (kq (Ze (Ze (Zg (Zx Yd J (Yg Zu J (E.g0.at_ J) (Wja J J (Zt J (Zn J J J (fun _ => Zv Ym (Zk J)) (Yj J J J (Ye Yr (Zq J id) (fun _ => E.g0.at_ J)) (Zn J J J (fun _ => Yl (Zk J)) (Zn J J J (fun _ => Jvb (Zq J id) (Zq J id)) (Yi J (fun _ => Xh (Zk J) (Zq J id)) (Zb (kq (Yv J (fun h2 => ?_) (fun h2 => ?_)))))))))))))))))
    · replace h2 : (!decide (t.kids[i].kind = 2) || !decide (t.kids[i].text = name)) = true := h2
      refine Vq J (kq (Zg (Zt J (Qv J J (by omega) (Zp J (Wh [(6, _, _), (1, _, _), (2, _, _)] (Za J (Za J (Za J (Zj _)))) (Zb (fun a ha => ?_))))))))
      exact ⟨i + 1, ha, ⟨⟨h1, fun j hj1 hj => by
        by_cases e : j = i
        · subst e; unfold isStr; rw [h2]; rfl
        · exact hI1.2 j hj1 (by omega)⟩, gl1⟩, by omega⟩
    replace h2 : (!decide (t.kids[i].kind = 2) || !decide (t.kids[i].text = name)) = false := h2
    have hf := Wlf h1 hI1.2 (by unfold isStr; rw [h2]; rfl)
    have hN : Qn t name = match mapO Xpa t.kids[i].kids with
      | none => ([], false)
      | some l => (l, true) := by unfold Qn; rw [hf]; try rfl
    obtain ⟨p2, c2, hpe, hcap2, hks2⟩ := hkid
    injection hpe with hpe _ hce
    subst hpe hce
    have hb2 := E.g1.lt
    have hb7 := E.g0.lt
    refine Yc (kq (Ze (Zg (Zp J (Zb (kq (Ze (Ze (Zg (Zp J (Zb (kq (Yu (Qq (fun (x : Nat × Option Addr × Nat × List Fld) u2 => match x with | ⟨k, a, ca, l⟩ => (k ≤ t.kids[i].kids.length ∧ mapO Xpa (t.kids[i].kids.take k) = some l ∧ u2.ownsRow wS1.heap.size Uha 3 (.slice a l.length ca) l.length (l.flatMap fldCells)) ∧ G wS1 u2) [(1, True, _), (2, True, _), (6, True, _), (7, True, _)] (fun (x : Nat × Option Addr × Nat × List Fld) => match x with | ⟨k, a, ca, l⟩ => [(8, True, .slice a l.length ca), (9, True, .int .i64 k)]) (fun (x : Nat × Option Addr × Nat × List Fld) => match x with | ⟨k, a, ca, l⟩ => t.kids[i].kids.length - k) ((0, none, 0, [])) ⟨⟨Nat.zero_le _, rfl, Wna _ _ _ _⟩, G.refl _⟩ (Za J (Za J (Za J (Za J (Za J (Za J (Zj _))))))) ?_))))))))))))))
    rintro ⟨k, a, ca, l⟩ u2 ⟨hI2, gl2⟩
    have g := g.trans gl2
    have gl1 := gl1.trans gl2
    replace E := E.grow gl2
    obtain ⟨hk, hm, hO⟩ := hI2
    have hll := Ulc Xpa _ _ hm
    rw [List.length_take] at hll
    refine Ze (Ze (Zg (Zt J (Zx Zi J (Yg Zh J (E.g0.at_ J) (Qu Zf J (Zfa J J (Zb (kq (Yv J (fun h3 => ?_) (fun h3 => ?_)))))))))))
    · replace h3 : k < t.kids[i].kids.length := by simp only [decide_eq_true_eq] at h3; omega
      obtain ⟨b2, o2, rfl, hD2, xs2, hR2, hX2⟩ := hks2 (by omega)
      obtain ⟨p3, c3, hcell3, hkid3⟩ := Qta hR2 hX2 h3
      have hck3 := Xka h3
      refine Yc (kq (Ze (Yu (Ze (Zg (Zx Zi J (Yg Zh J (E.g0.at_ J) (Zt J (Jta Zf J J (by omega) (Yk Zc J J (hcell3.grow g) (?_)))))))))))
      have hlt10 := fun k hk => (hO.lt k hk).2
      refine Yh J Zm J ?_
      intro b10 w10 N10
      have l10 := N10.ge g
      have l10_gl1 := N10.ge gl1
      have l10_gl2 := N10.ge gl2
      have g := g.trans N10.g
      have gl1 := gl1.trans (N10.g)
      have gl2 := gl2.trans (N10.g)
      have hO := Us hO (N10.g)
      replace E := E.new N10
      have ne10 : (Value.slice a l.length ca).ownBlock ≠ some b10 := fun h => by have := hlt10 _ h; have := N10.at_; omega
      refine Yt Zl J J J E.g0 ?_
      intro wS2 hgS2 _ BS
      replace E := E.s0 hgS2 BS
      have g := Zw g hgS2 (by omega)
      first | replace gl1 := Zw gl1 hgS2 (by omega) | clear gl1 | skip
      first | replace gl2 := Zw gl2 hgS2 (by omega) | clear gl2 | skip
      have hO := Vy hO hgS2 (.inr ne10)
      refine Zb (kq (Ze (Ze (Zg (Zx Yd J (Yg Zu J (E.g0.at_ J) (Wja J J (Zt J (Zn J J J (fun _ => Zv Zi (Zk J)) (Yj J J J (Ye Zh (Zq J id) (fun _ => E.g0.at_ J)) (Zn J J J (fun _ => Zea Zf (Zq J id)) (Zn J J J (fun _ => Wba (Zq J id) Xy) (Yi J (fun _ => Xh (Zk J) (Zq J id)) (Zb (kq (Yv J (fun h4 => ?_) (fun h4 => ?_)))))))))))))))))
      · replace h4 : (!decide (t.kids[i].kids[k].kind = 3) || !decide ((t.kids[i].kids[k].kids.length : Int) = 1)) = true := h4
        have hbad := Ukc Xpa _ _ (List.getElem_mem h3) (by unfold Xpa; rw [h4]; rfl)
        refine Ze (Zg (Zp J (Zp J (Zb (kq (Zr (Uva (ts := [4, 5]) (vs := [_, _]) J J J ?_)))))))
        rw [hN, hbad]; exact ⟨⟨_, rfl, Ujc _⟩, g⟩
      replace h4 : (!decide (t.kids[i].kids[k].kind = 3) || !decide ((t.kids[i].kids[k].kids.length : Int) = 1)) = false := h4
      have h1k : t.kids[i].kids[k].kids.length = 1 := by
        simp only [Bool.or_eq_false_iff, Bool.not_eq_false', decide_eq_true_eq] at h4; omega
      obtain ⟨h0k, ek⟩ := Wof h1k
      obtain ⟨p4, c4, hpe4, _, hks4⟩ := hkid3
      injection hpe4 with hpe4 _ hce4
      subst hpe4 hce4
      obtain ⟨b4, o4, rfl, hD4, xs4, hR4, hX4⟩ := hks4 (by omega)
      obtain ⟨p5, c5, hcell5, _⟩ := Qta hR4 hX4 h0k
      refine Yc (kq (Ze (Zg (Zx Zi J (Yg Zh J (E.g0.at_ J) (Yi J (fun _ => Jwb Zf (Zk J) Xy (fun _ => by show (0:Int) ≤ 0 ∧ (0:Int) < ((t.kids[i].kids[k].kids.length : Nat) : Int); omega)) (Yk Zc J J (hcell5.grow g) (Xk J (Zo Xfa Yo (aqc J aq0) J) (Yrb _ _ _ _) (fun w60 g60 => ?_)))))))))
      have g := g.trans g60
      have gl1 := gl1.trans (g60)
      have gl2 := gl2.trans (g60)
      replace E := E.grow g60
      have hO := Us hO (g60)
      refine Zt J (Qc J J (Qc J J (?_)))
      have hlt11 := fun k hk => (hO.lt k hk).2
      refine Yh J Yq J ?_
      intro b11 w11 N11
      have l11 := N11.ge g
      have l11_gl1 := N11.ge gl1
      have l11_gl2 := N11.ge gl2
      have g := g.trans N11.g
      have gl1 := gl1.trans (N11.g)
      have gl2 := gl2.trans (N11.g)
      have hO := Us hO (N11.g)
      replace E := E.new N11
      have ne11 : (Value.slice a l.length ca).ownBlock ≠ some b11 := fun h => by have := hlt11 _ h; have := N11.at_; omega
      refine Yt Yn J J J E.g0 ?_
      intro wS3 hgS3 _ BS
      replace E := E.s0 hgS3 BS
      have g := Zw g hgS3 (by omega)
      first | replace gl1 := Zw gl1 hgS3 (by omega) | clear gl1 | skip
      first | replace gl2 := Zw gl2 hgS3 (by omega) | clear gl2 | skip
      have hO := Vy hO hgS3 (.inr ne11)
      refine Zp J (Zb (kq (Ze (Ze (Zg (Zt J (Wia J (Zb (kq (Yv J (fun h5 => ?_) (fun h5 => ?_)))))))))))
      · replace h5 : (!(ofF t.kids[i].kids[k].kids[0]).2) = true := h5
        have hbad := Ukc Xpa _ _ (List.getElem_mem h3) (by unfold Xpa; rw [h4, ek]; simp only [Bool.not_eq_true'] at h5; rw [h5]; rfl)
        refine Ze (Zg (Zp J (Zp J (Zb (kq (Zr (Uva (ts := [4, 5]) (vs := [_, _]) J J J ?_)))))))
        rw [hN, hbad]; exact ⟨⟨_, rfl, Ujc _⟩, g⟩
      replace h5 : (!(ofF t.kids[i].kids[k].kids[0]).2) = false := h5
      have hgood : Xpa t.kids[i].kids[k] = some ⟨t.kids[i].kids[k].text, (ofF t.kids[i].kids[k].kids[0]).1⟩ := by unfold Xpa; rw [h4, ek]; simp only [Bool.not_eq_false'] at h5; rw [h5]; rfl
      refine Yc (kq (Zg (Zt J (Zx Ym J (Yg Yr J (E.g1.at_ J) (Yk Zs J J E.g0.row (Uc Ynb Xmd (pqc J (pqc J pq0)) J J (Yb _ J Ypa Ynb (pqc J pq0) J J ?_))))))))
      intro b70 w70 N70
      have l70 := N70.ge g
      have l70_gl1 := N70.ge gl1
      have l70_gl2 := N70.ge gl2
      have g := g.trans N70.g
      have gl2 := gl2.trans (N70.g)
      have hO := Us hO (N70.g)
      replace E := E.new N70
      refine Ysa J Ypa Ynb J (by decide) (Zk J) hO (Zk J) J E.g0.row J (by simp only [maxLen]; omega) (by omega) (by have := gl2.size; omega) ?_
      intro a' c' w71 hO' hg71 hat
      have hOg := fun k hk => (hO.lt k hk).1
      have g := Wqc g hg71 (fun k hk => by have := hOg k hk; omega)
      replace gl2 := Wqc gl2 hg71 hOg
      replace E := E.sel [false, false, false, true, true]
      replace E := E.keep hg71 (List.forall_mem_cons.2 ⟨((fun he => by have := hOg _ he.symm; omega)), List.forall_mem_cons.2 ⟨((fun he => by have := hOg _ he.symm; omega)), List.forall_mem_nil _⟩⟩)
      have hO2 := Jte ⟨t.kids[i].kids[k].text, (ofF t.kids[i].kids[k].kids[0]).1⟩ hO'
      refine Zp J (Zb (kq (Zg (Zt J (Qv J J (by omega) (Zp J (Wh [(8, _, _), (9, _, _), (1, _, _), (2, _, _), (6, _, _), (7, _, _)] (Za J (Za J (Za J (Za J (Za J (Za J (Zj _))))))) (Zb (fun a ha => ?_)))))))))
      refine ⟨(k + 1, a', c', l ++ [⟨t.kids[i].kids[k].text, (ofF t.kids[i].kids[k].kids[0]).1⟩]), ?_, ⟨⟨h3, Jse h3 hm hgood, hO2⟩, gl2⟩, by show t.kids[i].kids.length - (k + 1) < t.kids[i].kids.length - k; omega⟩
      simpa using ha
    replace h3 : k = t.kids[i].kids.length := by simp only [decide_eq_false_iff_not] at h3; omega
    subst h3
    rw [List.take_length] at hm
    refine Vq J (kq (Ze (Zg (Zt J (Zp J (Zp J (Zb (kq (Zr (Uva (ts := [4, 5]) (vs := [_, _]) J J J ?_))))))))))
    rw [hN, hm]; exact ⟨⟨_, rfl, Wnf hO⟩, g⟩
  replace h1 : i = t.kids.length := by simp only [decide_eq_false_iff_not] at h1; omega
  subst h1
  refine Vq J (kq (Ze (Zg (Zp J (Zp J (Zb (kq (Zr (Uva (ts := [4, 5]) (vs := [_, _]) J J J ?_)))))))))
  have hN : Qn t name = ([], false) := by unfold Qn; rw [Wmf fun j hj => hI1.2 j hj (by omega)]
  rw [hN]; exact ⟨⟨_, rfl, Ujc _⟩, g⟩
end Go.Rk
