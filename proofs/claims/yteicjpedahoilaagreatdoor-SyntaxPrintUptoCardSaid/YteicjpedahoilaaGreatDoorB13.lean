/- Merged texts of one road: Prs, Prt, Pru, Prv, Psp. Conditions: each text's own. -/
import Derived.Test.YteicjpedahoilaaGreatDoorB12
import Derived.Test.YteicjpedahoilaaGreatDoorB11
set_option linter.unusedSimpArgs false
set_option linter.unusedVariables false
namespace Go.Rk
open Go Go.RowKit
set_option linter.unusedVariables false
theorem RPel.es {t : Nd} (ih : RPel t) (hx : t.kids.all exprB = true) (hk : okNd t) : ∀ x ∈ t.kids, RTx Jc exT x := fun x hm => (ih x (Wk hm)).ex (List.all_eq_true.1 hx x hm) (Ua hk hm)
theorem RPel.b {t : Nd} (ih : RPel t) {i : Nat} (h : i < t.kids.length) (hx : blockB (kidAt t i) = true) (hk : okNd t) : RTx fn_r03_block blkT (kidAt t i) := by
  have hs := List.all_eq_true.1 (sh10 hx)
  exact rblock_ok fun x hm => (ih x (Nat.lt_trans (Wk hm) (Yp h))).st (hs x hm) (Ua (okNd_kidAt' hk h) hm)
theorem RPel.b0 {t : Nd} (ih : RPel t) (hx : blockB t = true) (hk : okNd t) : RTx fn_r03_block blkT t := by
  have hs := List.all_eq_true.1 (sh10 hx)
  exact rblock_ok fun x hm => (ih x (Wk hm)).st (hs x hm) (Ua hk hm)
theorem join1_take (t : Nd) (k i : Nat) (h : i < t.kids.length) (h1 : 1 ≤ i) : joinX (((t.kids.take (i + 1)).drop 1).map fun y => exT y k) = joinX (((t.kids.take i).drop 1).map fun y => exT y k) ++ (bif decide ((1 : Int) < i) then [44, 32] else []) ++ exT t.kids[i] k := by
  rw [Vo h, List.drop_append_of_le_length (by rw [List.length_take]; omega), joinX_snoc (fun y => exT y k)]
  have e : decide ((0 : Int) < (((t.kids.take i).drop 1).length : Nat)) = decide ((1 : Int) < i) := by
    rw [List.length_drop, List.length_take]; apply decide_eq_decide.2; omega
  rw [e]
theorem join1_le (t : Nd) (k i : Nat) : (joinX (((t.kids.take i).drop 1).map fun y => exT y k)).length ≤ (joinX ((t.kids.drop 1).map fun y => exT y k)).length := by
  cases i with
  | zero => simp [joinX]
  | succ i => rw [List.drop_take]; exact joinX_le (fun y => exT y k) (t.kids.drop 1) _
def accT (t : Nd) (k i : Nat) : List UInt8 := bif Nat.ble i 1 then parX (memK [32, 31, 33] (kidAt t 0).kind) (exT (kidAt t 0) k) ++ [40] else (parX (memK [32, 31, 33] (kidAt t 0).kind) (exT (kidAt t 0) k) ++ [40]) ++ joinX (((t.kids.take i).drop 1).map fun y => exT y k)
theorem accT_eq (t : Nd) (k i : Nat) (h : 1 ≤ i) : accT t k i = (parX (memK [32, 31, 33] (kidAt t 0).kind) (exT (kidAt t 0) k) ++ [40]) ++ joinX (((t.kids.take i).drop 1).map fun y => exT y k) := by
  unfold accT
  by_cases h1 : i = 1
  · subst h1
    have : (t.kids.take 1).drop 1 = [] := List.drop_eq_nil_of_le (by rw [List.length_take]; omega)
    rw [this]; simp [joinX]
  · rw [show Nat.ble i 1 = false by rw [← Bool.not_eq_true]; intro e; have := Nat.le_of_ble_eq_true e; omega]; rfl
set_option maxHeartbeats 4000000 in
theorem rexpr_ok {t : Nd} (ih : RPel t) (hx : exprB t = true) (hok : okNd t) (hdig : t.kind = 24 → ∀ w, Ret PP fn_r03_Digits #[.int .i64 t.num] w fun r w' => r = Str (digL t.num.toNat) ∧ G w w') : RTx Jc exT t := by
  intro p c D k w hk0 hlen hc
  have g := G.refl w
  have hcn : count t = 1 + (t.kids.map count).sum := Wt t
  have hln := Vs t
  refine Yl (m := 168) func_r03_expr rfl rfl [(0, True, _), (1, True, _)] (Za rfl (Za rfl (Zd _))) ?_
  refine Zh fun K1 hK1 => ?_
  refine Zf [1, 3] ?_
  refine Xt rfl (Zb rfl) rfl ?_
  intro b2 w2 N2
  have l2 := N2.ge g
  have g := g.trans (N2.g)
  have hk0 := hk0.grow (N2.g)
  try have hkid := hkid.grow (N2.g)
  try have hkA := hkA.grow (N2.g)
  try have hkB := hkB.grow (N2.g)
  have B2 := N2.blk
  refine Zc rfl (fun _ => Ze Zr) ?_
  refine Zj [(1, _, _), (2, _, _), (4, _, _)] (Za rfl (Za rfl (Za rfl (Zd _)))) ?_
  refine Zg (hK1 _ _ ?_)
  refine Zh fun K2 hK2 => ?_
  refine Zh fun K3 hK3 => ?_
  refine Zf [3, 0] ?_
  refine Zc rfl (fun _ => Zn Yj (Zb rfl)) ?_
  refine Zv rfl (Zs Yv (Zb rfl) (fun _ => B2.at_ rfl)) ?_
  refine Zj [(1, _, _), (2, _, _), (4, _, _), (8, _, _)] (Za rfl (Za rfl (Za rfl (Za rfl (Zd _))))) ?_
  refine Zg (hK3 _ _ ?_)
  refine Yr ?_
  refine Zh fun K4 hK4 => ?_
  refine Zf [3, 3] ?_
  refine Zc rfl (fun _ => Yg (Zb rfl) Zr) ?_
  refine Zc rfl (fun _ => Ze (Zb rfl)) ?_
  refine Zj [(1, _, _), (2, _, _), (4, _, _), (8, _, _), (9, _, _)] (Za rfl (Za rfl (Za rfl (Za rfl (Za rfl (Zd _)))))) ?_
  refine Zg (hK4 _ _ ?_)
  refine Ya (Zb rfl) (fun h1 => ?_) (fun h1 => ?_)
  · replace h1 := of_decide_eq_true h1
    have e := exT_24 h1 k
    rw [e] at hlen
    try simp only [Js, Jt, Ju, Jv, Jw, Jy, tabsL, Jz] at hlen
    refine Zh fun K5 hK5 => ?_
    refine Zf [3, 0, 1, 3] ?_
    refine Zc rfl (fun _ => Zn Wh (Zb rfl)) ?_
    refine Zv rfl (Zs Yv (Zb rfl) (fun _ => B2.at_ rfl)) ?_
    refine Yb rfl (Zt go_r03_Digits Yi (Zi (Zb rfl) (Zp)) rfl) (hdig h1 _) ?_
    rintro v13 w13 ⟨rfl, g13⟩
    refine ⟨fun _ => g13, ?_⟩
    have g := g.trans (g13)
    replace B2 := B2.grow (g13)
    have hk0 := hk0.grow (g13)
    try have hkid := hkid.grow (g13)
    try have hkA := hkA.grow (g13)
    try have hkB := hkB.grow (g13)
    refine Zc rfl (fun _ => Ze (Zb rfl)) ?_
    refine Zj [(1, _, _), (2, _, _), (4, _, _)] (Za rfl (Za rfl (Za rfl (Zd _)))) ?_
    refine Zg (hK5 _ _ ?_)
    refine Ye (Yf rfl rfl ?_)
    exact ⟨by rw [e], g⟩
  (try simp only [bsimp] at h1)
  refine Zh fun K6 hK6 => ?_
  refine Zf [3, 3] ?_
  refine Zc rfl (fun _ => Yg (Zb rfl) Zr) ?_
  refine Zc rfl (fun _ => Ze (Zb rfl)) ?_
  refine Zj [(1, _, _), (2, _, _), (4, _, _), (8, _, _), (14, _, _)] (Za rfl (Za rfl (Za rfl (Za rfl (Za rfl (Zd _)))))) ?_
  refine Zg (hK6 _ _ ?_)
  refine Ya (Zb rfl) (fun h2 => ?_) (fun h2 => ?_)
  · replace h2 := of_decide_eq_true h2
    have e := exT_25 h2 k
    rw [e] at hlen
    try simp only [Js, Jt, Ju, Jv, Jw, Jy, tabsL, Jz] at hlen
    refine Zh fun K7 hK7 => ?_
    refine Zh fun K8 hK8 => ?_
    refine Zf [3, 0, 3] ?_
    refine Zc rfl (fun _ => Zn Wh (Zb rfl)) ?_
    refine Zv rfl (Zs Yv (Zb rfl) (fun _ => B2.at_ rfl)) ?_
    refine Zc rfl (fun _ => Yg (Zb rfl) Zr) ?_
    refine Zj [(1, _, _), (2, _, _), (4, _, _), (18, _, _)] (Za rfl (Za rfl (Za rfl (Za rfl (Zd _))))) ?_
    refine Zg (hK8 _ _ ?_)
    refine Ya (Zb rfl) (fun h3 => ?_) (fun h3 => ?_)
    · rw [h3, cond_true] at e
      refine Zh fun K9 hK9 => ?_
      refine Zf [3] ?_
      refine Zc rfl (fun _ => Ze Zr) ?_
      refine Zj [(1, _, _), (2, _, _), (4, _, _)] (Za rfl (Za rfl (Za rfl (Zd _)))) ?_
      refine Zg (hK9 _ _ ?_)
      refine Ye (Yf rfl rfl ?_)
      exact ⟨by rw [e], g⟩
    rw [h3, cond_false] at e
    refine Yt (hK7 _ _ ?_)
    refine Yn [(1, _, _), (2, _, _), (4, _, _)] (Za rfl (Za rfl (Za rfl (Zd _)))) ?_
    refine Zh fun K10 hK10 => ?_
    refine Zf [3] ?_
    refine Zc rfl (fun _ => Ze Zr) ?_
    refine Zg (hK10 _ _ ?_)
    refine Ye (Yf rfl rfl ?_)
    exact ⟨by rw [e], g⟩
  (try simp only [bsimp] at h2)
  refine Zh fun K11 hK11 => ?_
  refine Zf [3, 3] ?_
  refine Zc rfl (fun _ => Yg (Zb rfl) Zr) ?_
  refine Zc rfl (fun _ => Ze (Zb rfl)) ?_
  refine Zj [(1, _, _), (2, _, _), (4, _, _), (8, _, _), (19, _, _)] (Za rfl (Za rfl (Za rfl (Za rfl (Za rfl (Zd _)))))) ?_
  refine Zg (hK11 _ _ ?_)
  refine Ya (Zb rfl) (fun h4 => ?_) (fun h4 => ?_)
  · replace h4 := of_decide_eq_true h4
    have e := exT_26 h4 k
    rw [e] at hlen
    try simp only [Js, Jt, Ju, Jv, Jw, Jy, tabsL, Jz] at hlen
    refine Zh fun K12 hK12 => ?_
    refine Zf [3] ?_
    refine Zc rfl (fun _ => Ze Zr) ?_
    refine Zj [(1, _, _), (2, _, _), (4, _, _)] (Za rfl (Za rfl (Za rfl (Zd _)))) ?_
    refine Zg (hK12 _ _ ?_)
    refine Ye (Yf rfl rfl ?_)
    exact ⟨by rw [e], g⟩
  (try simp only [bsimp] at h4)
  refine Zh fun K13 hK13 => ?_
  refine Zf [3, 3] ?_
  refine Zc rfl (fun _ => Yg (Zb rfl) Zr) ?_
  refine Zc rfl (fun _ => Ze (Zb rfl)) ?_
  refine Zj [(1, _, _), (2, _, _), (4, _, _), (8, _, _), (21, _, _)] (Za rfl (Za rfl (Za rfl (Za rfl (Za rfl (Zd _)))))) ?_
  refine Zg (hK13 _ _ ?_)
  refine Ya (Zb rfl) (fun h5 => ?_) (fun h5 => ?_)
  · replace h5 := of_decide_eq_true h5
    have e := exT_27 h5 k
    rw [e] at hlen
    try simp only [Js, Jt, Ju, Jv, Jw, Jy, tabsL, Jz] at hlen
    refine Zh fun K14 hK14 => ?_
    refine Zf [3, 0, 3] ?_
    refine Zc rfl (fun _ => Zn Yk (Zb rfl)) ?_
    refine Zv rfl (Zs Ys (Zb rfl) (fun _ => B2.at_ rfl)) ?_
    refine Zc rfl (fun _ => Ze (Zb rfl)) ?_
    refine Zj [(1, _, _), (2, _, _), (4, _, _)] (Za rfl (Za rfl (Za rfl (Zd _)))) ?_
    refine Zg (hK14 _ _ ?_)
    refine Ye (Yf rfl rfl ?_)
    exact ⟨by rw [e], g⟩
  (try simp only [bsimp] at h5)
  refine Zh fun K15 hK15 => ?_
  refine Zf [3, 3] ?_
  refine Zc rfl (fun _ => Yg (Zb rfl) Zr) ?_
  refine Zc rfl (fun _ => Ze (Zb rfl)) ?_
  refine Zj [(1, _, _), (2, _, _), (4, _, _), (8, _, _), (25, _, _)] (Za rfl (Za rfl (Za rfl (Za rfl (Za rfl (Zd _)))))) ?_
  refine Zg (hK15 _ _ ?_)
  refine Ya (Zb rfl) (fun h6 => ?_) (fun h6 => ?_)
  · replace h6 := of_decide_eq_true h6
    have e := exT_34 h6 k
    rw [e] at hlen
    try simp only [Js, Jt, Ju, Jv, Jw, Jy, tabsL, Jz] at hlen
    refine Zh fun K16 hK16 => ?_
    refine Zf [3, 0, 3, 3, 3] ?_
    refine Zc rfl (fun _ => Zn Yk (Zb rfl)) ?_
    refine Zv rfl (Zs Ys (Zb rfl) (fun _ => B2.at_ rfl)) ?_
    refine Zc rfl (fun _ => Yy Zr (Zb rfl) (fun _ => by first | omega | (simp only [Js, Jt, Ju, Jv, Jw, Jy, tabsL, Jz]; omega))) ?_
    refine Zc rfl (fun _ => Yy (Zb rfl) Zr (fun _ => by first | omega | (simp only [Js, Jt, Ju, Jv, Jw, Jy, tabsL, Jz]; omega))) ?_
    refine Zc rfl (fun _ => Ze (Zb rfl)) ?_
    refine Zj [(1, _, _), (2, _, _), (4, _, _)] (Za rfl (Za rfl (Za rfl (Zd _)))) ?_
    refine Zg (hK16 _ _ ?_)
    refine Ye (Yf rfl rfl ?_)
    exact ⟨by rw [e], g⟩
  (try simp only [bsimp] at h6)
  refine Zh fun K17 hK17 => ?_
  refine Zf [3, 3] ?_
  refine Zc rfl (fun _ => Yg (Zb rfl) Zr) ?_
  refine Zc rfl (fun _ => Ze (Zb rfl)) ?_
  refine Zj [(1, _, _), (2, _, _), (4, _, _), (8, _, _), (31, _, _)] (Za rfl (Za rfl (Za rfl (Za rfl (Za rfl (Zd _)))))) ?_
  refine Zg (hK17 _ _ ?_)
  refine Ya (Zb rfl) (fun h7 => ?_) (fun h7 => ?_)
  · replace h7 := of_decide_eq_true h7
    obtain ⟨ht, hl, he0⟩ := sh28 h7 hx
    have hE0 := ih.e (i := 0) (by omega) he0 hok
    have hc0 := Yp (t := t) (i := 0) (by omega)
    have e := exT_28 h7 hl k
    rw [e] at hlen
    try simp only [Js, Jt, Ju, Jv, Jw, Jy, tabsL, Jz] at hlen
    refine Zh fun K18 hK18 => ?_
    skip
    refine Xx [3, 0, 3, 0, 3, 1, 3, 3, 0, 3, 3] [true, true, true, true, true, true, true, false, false, true, true] [0, 1, 3, 7, 0, 31, 63, 0, 128, 511, 1023] mix (by kernel_rfl) ?_
    have g := g.trans (G.drew _)
    replace B2 := B2.grow (G.drew _)
    have hk0 := hk0.grow (G.drew _)
    try have hkid := hkid.grow (G.drew _)
    try have hkA := hkA.grow (G.drew _)
    try have hkB := hkB.grow (G.drew _)
    have C2 := B2
    obtain ⟨hpA, pA, cA, hcA, hkA⟩ := Xd hk0 (i := 0) (by omega)
    refine Zc rfl (fun _ => Zn Zo (Zb rfl)) ?_
    refine Zv rfl (Zs Zm (Zb rfl) (fun _ => B2.at_ rfl)) ?_
    refine Zc rfl (fun _ => Ym Zl (Zb rfl) Zr (fun _ => by omega) (fun _ => hpA)) ?_
    refine Zv rfl (Zy Zq (Zb rfl) rfl (fun _ => hcA)) ?_
    refine Zc rfl (fun _ => Zk (Zb rfl)) ?_
    refine Yb rfl (Zt go_r03_base Yi (Zi (Zb rfl) (Zi (Zb rfl) (Zp))) rfl) (rbase_ok hE0 _ _ D k _ hkA (by first | omega | (simp only [Js, Jt, Ju, Jv, Jw, Jy, tabsL, Jz]; omega)) (by omega)) ?_
    rintro v38 w38 ⟨rfl, g38⟩
    refine ⟨fun _ => g38, ?_⟩
    have g := g.trans (g38)
    replace B2 := B2.grow (g38)
    have hk0 := hk0.grow (g38)
    try have hkid := hkid.grow (g38)
    try have hkA := hkA.grow (g38)
    try have hkB := hkB.grow (g38)
    refine Zc rfl (fun _ => Yy (Zb rfl) Zr (fun _ => by first | omega | (simp only [Js, Jt, Ju, Jv, Jw, Jy, tabsL, Jz]; omega))) ?_
    refine Zc rfl (fun _ => Zn Yk (Zb rfl)) ?_
    refine Ql rfl (Zs Ys (Zb rfl) (fun _ => C2.at_ rfl)) ?_
    refine Zc rfl (fun _ => Yy (Zb rfl) (Zb rfl) (fun _ => by first | omega | (simp only [Js, Jt, Ju, Jv, Jw, Jy, tabsL, Jz]; omega))) ?_
    refine Zc rfl (fun _ => Ze (Zb rfl)) ?_
    refine Zj [(1, _, _), (2, _, _), (4, _, _)] (Za rfl (Za rfl (Za rfl (Zd _)))) ?_
    refine Zg (hK18 _ _ ?_)
    refine Ye (Yf rfl rfl ?_)
    exact ⟨by rw [e], g⟩
  (try simp only [bsimp] at h7)
  refine Zh fun K19 hK19 => ?_
  refine Zf [3, 3] ?_
  refine Zc rfl (fun _ => Yg (Zb rfl) Zr) ?_
  refine Zc rfl (fun _ => Ze (Zb rfl)) ?_
  refine Zj [(1, _, _), (2, _, _), (4, _, _), (8, _, _), (43, _, _)] (Za rfl (Za rfl (Za rfl (Za rfl (Za rfl (Zd _)))))) ?_
  refine Zg (hK19 _ _ ?_)
  refine Ya (Zb rfl) (fun h8 => ?_) (fun h8 => ?_)
  · replace h8 := of_decide_eq_true h8
    obtain ⟨hl, he0, he1⟩ := sh29 h8 hx
    have hE0 := ih.e (i := 0) (by omega) he0 hok
    have hE1 := ih.e (i := 1) (by omega) he1 hok
    have hc0 := Yp (t := t) (i := 0) (by omega)
    have hc1 := Yp (t := t) (i := 1) (by omega)
    have e := exT_29 h8 hl k
    rw [e] at hlen
    try simp only [Js, Jt, Ju, Jv, Jw, Jy, tabsL, Jz] at hlen
    refine Zh fun K20 hK20 => ?_
    skip
    refine Xx [3, 0, 3, 0, 3, 1, 3, 3, 0, 3, 0, 3, 1, 3, 3, 3] [true, true, true, true, true, true, true, false, false, false, false, false, true, true, true, true] [0, 1, 3, 7, 0, 31, 63, 0, 128, 384, 896, 0, 4031, 8191, 16383, 32767] mix (by kernel_rfl) ?_
    have g := g.trans (G.drew _)
    replace B2 := B2.grow (G.drew _)
    have hk0 := hk0.grow (G.drew _)
    try have hkid := hkid.grow (G.drew _)
    try have hkA := hkA.grow (G.drew _)
    try have hkB := hkB.grow (G.drew _)
    have C2 := B2
    obtain ⟨hpA, pA, cA, hcA, hkA⟩ := Xd hk0 (i := 0) (by omega)
    obtain ⟨hpB, pB, cB, hcB, hkB⟩ := Xd hk0 (i := 1) (by omega)
    refine Zc rfl (fun _ => Zn Zo (Zb rfl)) ?_
    refine Zv rfl (Zs Zm (Zb rfl) (fun _ => B2.at_ rfl)) ?_
    refine Zc rfl (fun _ => Ym Zl (Zb rfl) Zr (fun _ => by omega) (fun _ => hpA)) ?_
    refine Zv rfl (Zy Zq (Zb rfl) rfl (fun _ => hcA)) ?_
    refine Zc rfl (fun _ => Zk (Zb rfl)) ?_
    refine Yb rfl (Zt go_r03_base Yi (Zi (Zb rfl) (Zi (Zb rfl) (Zp))) rfl) (rbase_ok hE0 _ _ D k _ hkA (by first | omega | (simp only [Js, Jt, Ju, Jv, Jw, Jy, tabsL, Jz]; omega)) (by omega)) ?_
    rintro v50 w50 ⟨rfl, g50⟩
    refine ⟨fun _ => g50, ?_⟩
    have g := g.trans (g50)
    replace B2 := B2.grow (g50)
    have hk0 := hk0.grow (g50)
    try have hkid := hkid.grow (g50)
    try have hkA := hkA.grow (g50)
    try have hkB := hkB.grow (g50)
    refine Zc rfl (fun _ => Yy (Zb rfl) Zr (fun _ => by first | omega | (simp only [Js, Jt, Ju, Jv, Jw, Jy, tabsL, Jz]; omega))) ?_
    refine Zc rfl (fun _ => Zn Zo (Zb rfl)) ?_
    refine Ql rfl (Zs Zm (Zb rfl) (fun _ => C2.at_ rfl)) ?_
    refine Zc rfl (fun _ => Ym Zl (Zb rfl) Zr (fun _ => by omega) (fun _ => hpB)) ?_
    refine Ql rfl (Zy Zq (Zb rfl) rfl (fun _ => hcB)) ?_
    refine Zc rfl (fun _ => Zk (Zb rfl)) ?_
    refine Yb rfl (Zt Xu Yi (Zi (Zb rfl) (Zi (Zb rfl) (Zp))) rfl) (hE1 _ _ D k _ hkB (by first | omega | (simp only [Js, Jt, Ju, Jv, Jw, Jy, tabsL, Jz]; omega)) (by omega)) ?_
    rintro v57 w57 ⟨rfl, g57⟩
    refine ⟨fun _ => g57, ?_⟩
    have g := g.trans (g57)
    replace B2 := B2.grow (g57)
    have hk0 := hk0.grow (g57)
    try have hkid := hkid.grow (g57)
    try have hkA := hkA.grow (g57)
    try have hkB := hkB.grow (g57)
    refine Zc rfl (fun _ => Yy (Zb rfl) (Zb rfl) (fun _ => by first | omega | (simp only [Js, Jt, Ju, Jv, Jw, Jy, tabsL, Jz]; omega))) ?_
    refine Zc rfl (fun _ => Yy (Zb rfl) Zr (fun _ => by first | omega | (simp only [Js, Jt, Ju, Jv, Jw, Jy, tabsL, Jz]; omega))) ?_
    refine Zc rfl (fun _ => Ze (Zb rfl)) ?_
    refine Zj [(1, _, _), (2, _, _), (4, _, _)] (Za rfl (Za rfl (Za rfl (Zd _)))) ?_
    refine Zg (hK20 _ _ ?_)
    refine Ye (Yf rfl rfl ?_)
    exact ⟨by rw [e], g⟩
  (try simp only [bsimp] at h8)
  refine Zh fun K21 hK21 => ?_
  refine Zf [3, 3] ?_
  refine Zc rfl (fun _ => Yg (Zb rfl) Zr) ?_
  refine Zc rfl (fun _ => Ze (Zb rfl)) ?_
  refine Zj [(1, _, _), (2, _, _), (4, _, _), (8, _, _), (60, _, _)] (Za rfl (Za rfl (Za rfl (Za rfl (Za rfl (Zd _)))))) ?_
  refine Zg (hK21 _ _ ?_)
  refine Ya (Zb rfl) (fun h9 => ?_) (fun h9 => ?_)
  · replace h9 := of_decide_eq_true h9
    obtain ⟨hl, hes⟩ := sh30 h9 hx
    have hE0 := ih.e (i := 0) (by omega) (Us hes (by omega)) hok
    have hEs := ih.es hes hok
    have hc0 := Yp (t := t) (i := 0) (by omega)
    have e := exT_30 h9 hl k
    rw [e] at hlen
    try simp only [Js, Jt, Ju, Jv, Jw, Jy, tabsL, Jz] at hlen
    refine Zh fun K22 hK22 => ?_
    refine Zf [3, 0, 3, 0, 3, 1, 3, 3] ?_
    refine Zc rfl (fun _ => Zn Zo (Zb rfl)) ?_
    refine Zv rfl (Zs Zm (Zb rfl) (fun _ => B2.at_ rfl)) ?_
    obtain ⟨hpe, p_64, c_64, hcell, hkid⟩ := Xd hk0 (i := 0) (by omega)
    refine Zc rfl (fun _ => Ym Zl (Zb rfl) Zr (fun _ => by omega) (fun _ => hpe)) ?_
    refine Zv rfl (Zy Zq (Zb rfl) rfl (fun _ => hcell)) ?_
    refine Zc rfl (fun _ => Zk (Zb rfl)) ?_
    refine Yb rfl (Zt go_r03_base Yi (Zi (Zb rfl) (Zi (Zb rfl) (Zp))) rfl) (rbase_ok hE0 _ _ D k _ hkid (by first | omega | (simp only [Js, Jt, Ju, Jv, Jw, Jy, tabsL, Jz]; omega)) (by omega)) ?_
    rintro v67 w67 ⟨rfl, g67⟩
    refine ⟨fun _ => g67, ?_⟩
    have g := g.trans (g67)
    replace B2 := B2.grow (g67)
    have hk0 := hk0.grow (g67)
    try have hkid := hkid.grow (g67)
    try have hkA := hkA.grow (g67)
    try have hkB := hkB.grow (g67)
    refine Zc rfl (fun _ => Yy (Zb rfl) Zr (fun _ => by first | omega | (simp only [Js, Jt, Ju, Jv, Jw, Jy, tabsL, Jz]; omega))) ?_
    refine Zc rfl (fun _ => Ze (Zb rfl)) ?_
    refine Zj [(1, _, _), (2, _, _), (4, _, _), (5, _, _)] (Za rfl (Za rfl (Za rfl (Za rfl (Zd _))))) ?_
    refine Zg (hK22 _ _ ?_)
    refine Zh fun K23 hK23 => ?_
    refine Zh fun K24 hK24 => ?_
    refine Zf [3] ?_
    refine Zc rfl (fun _ => Ze Zr) ?_
    refine Zg (hK24 _ _ ?_)
    refine Yr ?_
    refine Wa (fun (i : Nat) u1 => (1 ≤ i ∧ i ≤ t.kids.length) ∧ G w67 u1) [(1, True, _), (2, True, _), (4, True, _)] (fun (i : Nat) => [(5, True, Str (accT t k i)), (6, True, .int .i64 i)]) (fun (i : Nat) => t.kids.length - i) (1) ⟨⟨Nat.le_refl _, hl⟩, G.refl _⟩ (Za rfl (Za rfl (Za rfl (Za rfl (Za rfl (Zd _)))))) ?_
    rintro i u1 ⟨hI1, gl1⟩
    have g := g.trans gl1
    replace B2 := B2.grow (gl1)
    obtain ⟨hi1, hi⟩ := hI1
    have hk0 := hk0.grow gl1
    refine Zh fun K25 hK25 => ?_
    refine Zh fun K26 hK26 => ?_
    refine Zf [3, 3, 0, 3, 3] ?_
    refine Zc rfl (fun _ => Zk (Zb rfl)) ?_
    refine Zc rfl (fun _ => Zn Zo (Zb rfl)) ?_
    refine Zv rfl (Zs Zm (Zb rfl) (fun _ => B2.at_ rfl)) ?_
    refine Zc rfl (fun _ => Xr Zl (Zb rfl)) ?_
    refine Zc rfl (fun _ => Va (Zb rfl) (Zb rfl)) ?_
    refine Zj [(1, _, _), (2, _, _), (4, _, _), (5, _, _), (6, _, _), (73, _, _)] (Za rfl (Za rfl (Za rfl (Za rfl (Za rfl (Za rfl (Zd _))))))) ?_
    refine Zg (hK26 _ _ ?_)
    refine Ya (Zb rfl) (fun h10 => ?_) (fun h10 => ?_)
    · replace h10 : i < t.kids.length := by simp only [decide_eq_true_eq] at h10; omega
      have hjs := join1_take t k i h10 hi1
      have hjl := join1_le t k (i + 1)
      rw [hjs] at hjl
      have hcs := sum_le t.kids h10
      have hEi := hEs _ (List.getElem_mem h10)
      rw [← Wc h10] at hEi hcs hjs hjl
      have hac := accT_eq t k i hi1
      have hac2 := accT_eq t k (i + 1) (by omega)
      have hal := congrArg List.length hac
      simp only [Js, Jt, Ju, Jv, Jw, Jy, tabsL, Jz] at hal
      obtain ⟨hpe, pI, cI, hcellI, hkidI⟩ := Xd hk0 h10
      refine Yt (hK25 _ _ ?_)
      refine Yn [(1, _, _), (2, _, _), (4, _, _), (5, _, _), (6, _, _)] (Za rfl (Za rfl (Za rfl (Za rfl (Za rfl (Zd _)))))) ?_
      refine Zh fun K27 hK27 => ?_
      refine Yr ?_
      refine Zh fun K28 hK28 => ?_
      refine Zh fun K29 hK29 => ?_
      refine Zf [3, 3] ?_
      refine Zc rfl (fun _ => Zk (Zb rfl)) ?_
      refine Zc rfl (fun _ => rd_gt (Zb rfl) Zr) ?_
      refine Zj [(1, _, _), (2, _, _), (4, _, _), (5, _, _), (6, _, _), (77, _, _)] (Za rfl (Za rfl (Za rfl (Za rfl (Za rfl (Za rfl (Zd _))))))) ?_
      refine Zg (hK29 _ _ ?_)
      refine Ya (Zb rfl) (fun h11 => ?_) (fun h11 => ?_)
      · rw [h11, cond_true] at hjs hjl
        simp only [Js, Jt, Ju, Jv, Jw, Jy, tabsL, Jz] at hjl
        have hv : (accT t k i ++ [44, 32]) ++ exT (kidAt t i) k = accT t k (i + 1) := by rw [hac, hac2, hjs]; simp only [List.append_assoc]
        refine Zf [3, 3, 3] ?_
        refine Zc rfl (fun _ => Zk (Zb rfl)) ?_
        refine Zc rfl (fun _ => Yy (Zb rfl) Zr (fun _ => by first | omega | (simp only [Js, Jt, Ju, Jv, Jw, Jy, tabsL, Jz]; omega))) ?_
        refine Zc rfl (fun _ => Ze (Zb rfl)) ?_
        refine Zj [(1, _, _), (2, _, _), (4, _, _), (5, _, _), (6, _, _)] (Za rfl (Za rfl (Za rfl (Za rfl (Za rfl (Zd _)))))) ?_
        refine Zg (hK28 _ _ ?_)
        refine Zf [3, 3, 0, 3, 3, 0, 3, 1, 3, 3] ?_
        refine Zc rfl (fun _ => Zk (Zb rfl)) ?_
        refine Zc rfl (fun _ => Zn Zo (Zb rfl)) ?_
        refine Zv rfl (Zs Zm (Zb rfl) (fun _ => B2.at_ rfl)) ?_
        refine Zc rfl (fun _ => Zk (Zb rfl)) ?_
        refine Zc rfl (fun _ => Ym Zl (Zb rfl) (Zb rfl) (fun _ => by omega) (fun _ => hpe)) ?_
        refine Zv rfl (Zy Zq (Zb rfl) rfl (fun _ => hcellI)) ?_
        refine Zc rfl (fun _ => Zk (Zb rfl)) ?_
        refine Yb rfl (Zt Xu Yi (Zi (Zb rfl) (Zi (Zb rfl) (Zp))) rfl) (hEi _ _ D k _ hkidI (by first | omega | (simp only [Js, Jt, Ju, Jv, Jw, Jy, tabsL, Jz]; omega)) (by omega)) ?_
        rintro v87 w87 ⟨rfl, g87⟩
        refine ⟨fun _ => g87, ?_⟩
        have g := g.trans (g87)
        try have gl1 := gl1.trans (g87)
        replace B2 := B2.grow (g87)
        have hk0 := hk0.grow (g87)
        try have hkid := hkid.grow (g87)
        try have hkA := hkA.grow (g87)
        try have hkB := hkB.grow (g87)
        refine Zc rfl (fun _ => Yy (Zb rfl) (Zb rfl) (fun _ => by first | omega | (simp only [Js, Jt, Ju, Jv, Jw, Jy, tabsL, Jz]; omega))) ?_
        refine Zc rfl (fun _ => Ze (Zb rfl)) ?_
        refine Zj [(1, _, _), (2, _, _), (4, _, _), (5, _, _), (6, _, _)] (Za rfl (Za rfl (Za rfl (Za rfl (Za rfl (Zd _)))))) ?_
        refine Zg (hK27 _ _ ?_)
        refine Zf [3, 3, 3] ?_
        refine Zc rfl (fun _ => Zk (Zb rfl)) ?_
        refine Zc rfl (fun _ => Xm (Zb rfl) Zr (fun _ => by first | omega | (simp only [Js, Jt, Ju, Jv, Jw, Jy, tabsL, Jz]; omega))) ?_
        refine Zc rfl (fun _ => Ze (Zb rfl)) ?_
        refine Zj [(5, _, _), (6, _, _), (1, _, _), (2, _, _), (4, _, _)] (Za rfl (Za rfl (Za rfl (Za rfl (Za rfl (Zd _)))))) ?_
        refine Zg (fun a ha => ?_)
        rw [hv] at ha
        exact ⟨i + 1, ha, ⟨⟨by omega, h10⟩, gl1⟩, by omega⟩
      rw [h11, cond_false, List.append_nil] at hjs hjl
      simp only [Js, Jt, Ju, Jv, Jw, Jy, tabsL, Jz] at hjl
      have hv : accT t k i ++ exT (kidAt t i) k = accT t k (i + 1) := by rw [hac, hac2, hjs]; simp only [List.append_assoc]
      refine Yt (hK28 _ _ ?_)
      refine Yn [(1, _, _), (2, _, _), (4, _, _), (5, _, _), (6, _, _)] (Za rfl (Za rfl (Za rfl (Za rfl (Za rfl (Zd _)))))) ?_
      refine Zf [3, 3, 0, 3, 3, 0, 3, 1, 3, 3] ?_
      refine Zc rfl (fun _ => Zk (Zb rfl)) ?_
      refine Zc rfl (fun _ => Zn Zo (Zb rfl)) ?_
      refine Zv rfl (Zs Zm (Zb rfl) (fun _ => B2.at_ rfl)) ?_
      refine Zc rfl (fun _ => Zk (Zb rfl)) ?_
      refine Zc rfl (fun _ => Ym Zl (Zb rfl) (Zb rfl) (fun _ => by omega) (fun _ => hpe)) ?_
      refine Zv rfl (Zy Zq (Zb rfl) rfl (fun _ => hcellI)) ?_
      refine Zc rfl (fun _ => Zk (Zb rfl)) ?_
      refine Yb rfl (Zt Xu Yi (Zi (Zb rfl) (Zi (Zb rfl) (Zp))) rfl) (hEi _ _ D k _ hkidI (by first | omega | (simp only [Js, Jt, Ju, Jv, Jw, Jy, tabsL, Jz]; omega)) (by omega)) ?_
      rintro v87 w87 ⟨rfl, g87⟩
      refine ⟨fun _ => g87, ?_⟩
      have g := g.trans (g87)
      try have gl1 := gl1.trans (g87)
      replace B2 := B2.grow (g87)
      have hk0 := hk0.grow (g87)
      try have hkid := hkid.grow (g87)
      try have hkA := hkA.grow (g87)
      try have hkB := hkB.grow (g87)
      refine Zc rfl (fun _ => Yy (Zb rfl) (Zb rfl) (fun _ => by first | omega | (simp only [Js, Jt, Ju, Jv, Jw, Jy, tabsL, Jz]; omega))) ?_
      refine Zc rfl (fun _ => Ze (Zb rfl)) ?_
      refine Zj [(1, _, _), (2, _, _), (4, _, _), (5, _, _), (6, _, _)] (Za rfl (Za rfl (Za rfl (Za rfl (Za rfl (Zd _)))))) ?_
      refine Zg (hK27 _ _ ?_)
      refine Zf [3, 3, 3] ?_
      refine Zc rfl (fun _ => Zk (Zb rfl)) ?_
      refine Zc rfl (fun _ => Xm (Zb rfl) Zr (fun _ => by first | omega | (simp only [Js, Jt, Ju, Jv, Jw, Jy, tabsL, Jz]; omega))) ?_
      refine Zc rfl (fun _ => Ze (Zb rfl)) ?_
      refine Zj [(5, _, _), (6, _, _), (1, _, _), (2, _, _), (4, _, _)] (Za rfl (Za rfl (Za rfl (Za rfl (Za rfl (Zd _)))))) ?_
      refine Zg (fun a ha => ?_)
      rw [hv] at ha
      exact ⟨i + 1, ha, ⟨⟨by omega, h10⟩, gl1⟩, by omega⟩
    replace h10 : i = t.kids.length := by simp only [decide_eq_false_iff_not] at h10; omega
    subst h10
    have hac := accT_eq t k t.kids.length hi1
    rw [List.take_length] at hac
    rw [← hac] at e
    have hal := congrArg List.length hac
    simp only [Js, Jt, Ju, Jv, Jw, Jy, tabsL, Jz] at hal
    refine Xz rfl (hK23 _ _ ?_)
    refine Yn [(1, _, _), (2, _, _), (4, _, _), (5, _, _)] (Za rfl (Za rfl (Za rfl (Za rfl (Zd _))))) ?_
    refine Zh fun K30 hK30 => ?_
    refine Zf [3, 3, 3] ?_
    refine Zc rfl (fun _ => Zk (Zb rfl)) ?_
    refine Zc rfl (fun _ => Yy (Zb rfl) Zr (fun _ => by first | omega | (simp only [Js, Jt, Ju, Jv, Jw, Jy, tabsL, Jz]; omega))) ?_
    refine Zc rfl (fun _ => Ze (Zb rfl)) ?_
    refine Zg (hK30 _ _ ?_)
    refine Ye (Yf rfl rfl ?_)
    exact ⟨by rw [e], g⟩
  (try simp only [bsimp] at h9)
  refine Zh fun K31 hK31 => ?_
  refine Zf [3, 3] ?_
  refine Zc rfl (fun _ => Yg (Zb rfl) Zr) ?_
  refine Zc rfl (fun _ => Ze (Zb rfl)) ?_
  refine Zj [(1, _, _), (2, _, _), (4, _, _), (8, _, _), (91, _, _)] (Za rfl (Za rfl (Za rfl (Za rfl (Za rfl (Zd _)))))) ?_
  refine Zg (hK31 _ _ ?_)
  refine Ya (Zb rfl) (fun h12 => ?_) (fun h12 => ?_)
  · replace h12 := of_decide_eq_true h12
    obtain ⟨ht, hl, he0⟩ := sh31 h12 hx
    have hE0 := ih.e (i := 0) (by omega) he0 hok
    have hc0 := Yp (t := t) (i := 0) (by omega)
    have e := exT_31 h12 hl k
    rw [e] at hlen
    try simp only [Js, Jt, Ju, Jv, Jw, Jy, tabsL, Jz] at hlen
    refine Zh fun K32 hK32 => ?_
    refine Xx [3, 0, 3, 0, 3, 0, 3, 1, 3, 3] [true, true, true, true, true, true, true, true, true, true] [0, 1, 0, 4, 12, 28, 0, 124, 255, 511] mix (by kernel_rfl) ?_
    have g := g.trans (G.drew _)
    replace B2 := B2.grow (G.drew _)
    have hk0 := hk0.grow (G.drew _)
    try have hkid := hkid.grow (G.drew _)
    try have hkA := hkA.grow (G.drew _)
    try have hkB := hkB.grow (G.drew _)
    obtain ⟨hpA, pA, cA, hcA, hkA⟩ := Xd hk0 (i := 0) (by omega)
    refine Zc rfl (fun _ => Zn Yk (Zb rfl)) ?_
    refine Zv rfl (Zs Ys (Zb rfl) (fun _ => B2.at_ rfl)) ?_
    refine Zc rfl (fun _ => Zn Zo (Zb rfl)) ?_
    refine Zv rfl (Zs Zm (Zb rfl) (fun _ => B2.at_ rfl)) ?_
    refine Zc rfl (fun _ => Ym Zl (Zb rfl) Zr (fun _ => by omega) (fun _ => hpA)) ?_
    refine Zv rfl (Zy Zq (Zb rfl) rfl (fun _ => hcA)) ?_
    refine Zc rfl (fun _ => Zk (Zb rfl)) ?_
    refine Yb rfl (Zt Jl Yi (Zi (Zb rfl) (Zi (Zb rfl) (Zp))) rfl) (roperand_ok hE0 _ _ D k _ hkA (by first | omega | (simp only [Js, Jt, Ju, Jv, Jw, Jy, tabsL, Jz]; omega)) (by omega)) ?_
    rintro v100 w100 ⟨rfl, g100⟩
    refine ⟨fun _ => g100, ?_⟩
    have g := g.trans (g100)
    replace B2 := B2.grow (g100)
    have hk0 := hk0.grow (g100)
    try have hkid := hkid.grow (g100)
    try have hkA := hkA.grow (g100)
    try have hkB := hkB.grow (g100)
    refine Zc rfl (fun _ => Yy (Zb rfl) (Zb rfl) (fun _ => by first | omega | (simp only [Js, Jt, Ju, Jv, Jw, Jy, tabsL, Jz]; omega))) ?_
    refine Zc rfl (fun _ => Ze (Zb rfl)) ?_
    refine Zj [(1, _, _), (2, _, _), (4, _, _)] (Za rfl (Za rfl (Za rfl (Zd _)))) ?_
    refine Zg (hK32 _ _ ?_)
    refine Ye (Yf rfl rfl ?_)
    exact ⟨by rw [e], g⟩
  (try simp only [bsimp] at h12)
  refine Zh fun K33 hK33 => ?_
  refine Zf [3, 3] ?_
  refine Zc rfl (fun _ => Yg (Zb rfl) Zr) ?_
  refine Zc rfl (fun _ => Ze (Zb rfl)) ?_
  refine Zj [(1, _, _), (2, _, _), (4, _, _), (8, _, _), (102, _, _)] (Za rfl (Za rfl (Za rfl (Za rfl (Za rfl (Zd _)))))) ?_
  refine Zg (hK33 _ _ ?_)
  refine Ya (Zb rfl) (fun h13 => ?_) (fun h13 => ?_)
  · replace h13 := of_decide_eq_true h13
    obtain ⟨hl, he0⟩ := sh33 h13 hx
    have hE0 := ih.e (i := 0) (by omega) he0 hok
    have hc0 := Yp (t := t) (i := 0) (by omega)
    have e := exT_33 h13 hl k
    rw [e] at hlen
    try simp only [Js, Jt, Ju, Jv, Jw, Jy, tabsL, Jz] at hlen
    refine Zh fun K34 hK34 => ?_
    refine Zf [3, 0, 3, 0, 3, 1, 3, 3] ?_
    refine Zc rfl (fun _ => Zn Zo (Zb rfl)) ?_
    refine Zv rfl (Zs Zm (Zb rfl) (fun _ => B2.at_ rfl)) ?_
    obtain ⟨hpe, p_106, c_106, hcell, hkid⟩ := Xd hk0 (i := 0) (by omega)
    refine Zc rfl (fun _ => Ym Zl (Zb rfl) Zr (fun _ => by omega) (fun _ => hpe)) ?_
    refine Zv rfl (Zy Zq (Zb rfl) rfl (fun _ => hcell)) ?_
    refine Zc rfl (fun _ => Zk (Zb rfl)) ?_
    refine Yb rfl (Zt Jl Yi (Zi (Zb rfl) (Zi (Zb rfl) (Zp))) rfl) (roperand_ok hE0 _ _ D k _ hkid (by first | omega | (simp only [Js, Jt, Ju, Jv, Jw, Jy, tabsL, Jz]; omega)) (by omega)) ?_
    rintro v109 w109 ⟨rfl, g109⟩
    refine ⟨fun _ => g109, ?_⟩
    have g := g.trans (g109)
    replace B2 := B2.grow (g109)
    have hk0 := hk0.grow (g109)
    try have hkid := hkid.grow (g109)
    try have hkA := hkA.grow (g109)
    try have hkB := hkB.grow (g109)
    refine Zc rfl (fun _ => Yy Zr (Zb rfl) (fun _ => by first | omega | (simp only [Js, Jt, Ju, Jv, Jw, Jy, tabsL, Jz]; omega))) ?_
    refine Zc rfl (fun _ => Ze (Zb rfl)) ?_
    refine Zj [(1, _, _), (2, _, _), (4, _, _)] (Za rfl (Za rfl (Za rfl (Zd _)))) ?_
    refine Zg (hK34 _ _ ?_)
    refine Ye (Yf rfl rfl ?_)
    exact ⟨by rw [e], g⟩
  (try simp only [bsimp] at h13)
  refine Zh fun K35 hK35 => ?_
  refine Zf [3, 3] ?_
  refine Zc rfl (fun _ => Yg (Zb rfl) Zr) ?_
  refine Zc rfl (fun _ => Ze (Zb rfl)) ?_
  refine Zj [(1, _, _), (2, _, _), (4, _, _), (8, _, _), (111, _, _)] (Za rfl (Za rfl (Za rfl (Za rfl (Za rfl (Zd _)))))) ?_
  refine Zg (hK35 _ _ ?_)
  refine Ya (Zb rfl) (fun h14 => ?_) (fun h14 => ?_)
  · replace h14 := of_decide_eq_true h14
    obtain ⟨ht, hl, he0, he1⟩ := sh32 h14 hx
    have hE0 := ih.e (i := 0) (by omega) he0 hok
    have hE1 := ih.e (i := 1) (by omega) he1 hok
    have hc0 := Yp (t := t) (i := 0) (by omega)
    have hc1 := Yp (t := t) (i := 1) (by omega)
    have e := exT_32 h14 hl k
    rw [e] at hlen
    try simp only [Js, Jt, Ju, Jv, Jw, Jy, tabsL, Jz] at hlen
    refine Zh fun K36 hK36 => ?_
    skip
    refine Xx [3, 0, 3, 0, 3, 1, 3, 3, 0, 3, 3, 3, 0, 3, 0, 3, 1, 3, 3] [true, true, true, true, true, true, true, false, false, true, true, false, false, false, false, false, true, true, true] [0, 1, 3, 7, 0, 31, 63, 0, 128, 511, 1023, 0, 2048, 6144, 14336, 0, 63551, 131071, 262143] mix (by kernel_rfl) ?_
    have g := g.trans (G.drew _)
    replace B2 := B2.grow (G.drew _)
    have hk0 := hk0.grow (G.drew _)
    try have hkid := hkid.grow (G.drew _)
    try have hkA := hkA.grow (G.drew _)
    try have hkB := hkB.grow (G.drew _)
    have C2 := B2
    obtain ⟨hpA, pA, cA, hcA, hkA⟩ := Xd hk0 (i := 0) (by omega)
    obtain ⟨hpB, pB, cB, hcB, hkB⟩ := Xd hk0 (i := 1) (by omega)
    refine Zc rfl (fun _ => Zn Zo (Zb rfl)) ?_
    refine Zv rfl (Zs Zm (Zb rfl) (fun _ => B2.at_ rfl)) ?_
    refine Zc rfl (fun _ => Ym Zl (Zb rfl) Zr (fun _ => by omega) (fun _ => hpA)) ?_
    refine Zv rfl (Zy Zq (Zb rfl) rfl (fun _ => hcA)) ?_
    refine Zc rfl (fun _ => Zk (Zb rfl)) ?_
    refine Yb rfl (Zt Jl Yi (Zi (Zb rfl) (Zi (Zb rfl) (Zp))) rfl) (roperand_ok hE0 _ _ D k _ hkA (by first | omega | (simp only [Js, Jt, Ju, Jv, Jw, Jy, tabsL, Jz]; omega)) (by omega)) ?_
    rintro v118 w118 ⟨rfl, g118⟩
    refine ⟨fun _ => g118, ?_⟩
    have g := g.trans (g118)
    replace B2 := B2.grow (g118)
    have hk0 := hk0.grow (g118)
    try have hkid := hkid.grow (g118)
    try have hkA := hkA.grow (g118)
    try have hkB := hkB.grow (g118)
    refine Zc rfl (fun _ => Yy (Zb rfl) Zr (fun _ => by first | omega | (simp only [Js, Jt, Ju, Jv, Jw, Jy, tabsL, Jz]; omega))) ?_
    refine Zc rfl (fun _ => Zn Yk (Zb rfl)) ?_
    refine Ql rfl (Zs Ys (Zb rfl) (fun _ => C2.at_ rfl)) ?_
    refine Zc rfl (fun _ => Yy (Zb rfl) (Zb rfl) (fun _ => by first | omega | (simp only [Js, Jt, Ju, Jv, Jw, Jy, tabsL, Jz]; omega))) ?_
    refine Zc rfl (fun _ => Yy (Zb rfl) Zr (fun _ => by first | omega | (simp only [Js, Jt, Ju, Jv, Jw, Jy, tabsL, Jz]; omega))) ?_
    refine Zc rfl (fun _ => Zn Zo (Zb rfl)) ?_
    refine Ql rfl (Zs Zm (Zb rfl) (fun _ => C2.at_ rfl)) ?_
    refine Zc rfl (fun _ => Ym Zl (Zb rfl) Zr (fun _ => by omega) (fun _ => hpB)) ?_
    refine Ql rfl (Zy Zq (Zb rfl) rfl (fun _ => hcB)) ?_
    refine Zc rfl (fun _ => Zk (Zb rfl)) ?_
    refine Yb rfl (Zt Jl Yi (Zi (Zb rfl) (Zi (Zb rfl) (Zp))) rfl) (roperand_ok hE1 _ _ D k _ hkB (by first | omega | (simp only [Js, Jt, Ju, Jv, Jw, Jy, tabsL, Jz]; omega)) (by omega)) ?_
    rintro v129 w129 ⟨rfl, g129⟩
    refine ⟨fun _ => g129, ?_⟩
    have g := g.trans (g129)
    replace B2 := B2.grow (g129)
    have hk0 := hk0.grow (g129)
    try have hkid := hkid.grow (g129)
    try have hkA := hkA.grow (g129)
    try have hkB := hkB.grow (g129)
    refine Zc rfl (fun _ => Yy (Zb rfl) (Zb rfl) (fun _ => by first | omega | (simp only [Js, Jt, Ju, Jv, Jw, Jy, tabsL, Jz]; omega))) ?_
    refine Zc rfl (fun _ => Ze (Zb rfl)) ?_
    refine Zj [(1, _, _), (2, _, _), (4, _, _)] (Za rfl (Za rfl (Za rfl (Zd _)))) ?_
    refine Zg (hK36 _ _ ?_)
    refine Ye (Yf rfl rfl ?_)
    exact ⟨by rw [e], g⟩
  (try simp only [bsimp] at h14)
  refine Zh fun K37 hK37 => ?_
  refine Zf [3, 3] ?_
  refine Zc rfl (fun _ => Yg (Zb rfl) Zr) ?_
  refine Zc rfl (fun _ => Ze (Zb rfl)) ?_
  refine Zj [(1, _, _), (2, _, _), (4, _, _), (8, _, _), (131, _, _)] (Za rfl (Za rfl (Za rfl (Za rfl (Za rfl (Zd _)))))) ?_
  refine Zg (hK37 _ _ ?_)
  refine Ya (Zb rfl) (fun h15 => ?_) (fun h15 => ?_)
  · replace h15 := of_decide_eq_true h15
    obtain ⟨hl, he0⟩ := sh35 h15 hx
    have hE0 := ih.e (i := 0) (by omega) he0 hok
    have hc0 := Yp (t := t) (i := 0) (by omega)
    have hj := Ue (fun y => exT y k) hl
    have e := exT_35 h15 hl k
    rw [e] at hlen
    try simp only [Js, Jt, Ju, Jv, Jw, Jy, tabsL, Jz] at hlen
    rw [hj] at e hlen
    refine Zh fun K38 hK38 => ?_
    refine Zf [3, 0, 3, 0, 3, 1, 3, 3, 3] ?_
    refine Zc rfl (fun _ => Zn Zo (Zb rfl)) ?_
    refine Zv rfl (Zs Zm (Zb rfl) (fun _ => B2.at_ rfl)) ?_
    obtain ⟨hpe, p_135, c_135, hcell, hkid⟩ := Xd hk0 (i := 0) (by omega)
    refine Zc rfl (fun _ => Ym Zl (Zb rfl) Zr (fun _ => by omega) (fun _ => hpe)) ?_
    refine Zv rfl (Zy Zq (Zb rfl) rfl (fun _ => hcell)) ?_
    refine Zc rfl (fun _ => Zk (Zb rfl)) ?_
    refine Yb rfl (Zt Xu Yi (Zi (Zb rfl) (Zi (Zb rfl) (Zp))) rfl) (hE0 _ _ D k _ hkid (by first | omega | (simp only [Js, Jt, Ju, Jv, Jw, Jy, tabsL, Jz]; omega)) (by omega)) ?_
    rintro v138 w138 ⟨rfl, g138⟩
    refine ⟨fun _ => g138, ?_⟩
    have g := g.trans (g138)
    replace B2 := B2.grow (g138)
    have hk0 := hk0.grow (g138)
    try have hkid := hkid.grow (g138)
    try have hkA := hkA.grow (g138)
    try have hkB := hkB.grow (g138)
    refine Zc rfl (fun _ => Yy Zr (Zb rfl) (fun _ => by first | omega | (simp only [Js, Jt, Ju, Jv, Jw, Jy, tabsL, Jz]; omega))) ?_
    refine Zc rfl (fun _ => Yy (Zb rfl) Zr (fun _ => by first | omega | (simp only [Js, Jt, Ju, Jv, Jw, Jy, tabsL, Jz]; omega))) ?_
    refine Zc rfl (fun _ => Ze (Zb rfl)) ?_
    refine Zj [(1, _, _), (2, _, _), (4, _, _)] (Za rfl (Za rfl (Za rfl (Zd _)))) ?_
    refine Zg (hK38 _ _ ?_)
    refine Ye (Yf rfl rfl ?_)
    exact ⟨by rw [e], g⟩
  (try simp only [bsimp] at h15)
  refine Zh fun K39 hK39 => ?_
  refine Zf [3, 3] ?_
  refine Zc rfl (fun _ => Yg (Zb rfl) Zr) ?_
  refine Zc rfl (fun _ => Ze (Zb rfl)) ?_
  refine Zj [(1, _, _), (2, _, _), (4, _, _), (8, _, _), (141, _, _)] (Za rfl (Za rfl (Za rfl (Za rfl (Za rfl (Zd _)))))) ?_
  refine Zg (hK39 _ _ ?_)
  refine Ya (Zb rfl) (fun h16 => ?_) (fun h16 => ?_)
  · replace h16 := of_decide_eq_true h16
    obtain ⟨hl, he0⟩ := sh36 h16 hx
    have hE0 := ih.e (i := 0) (by omega) he0 hok
    have hc0 := Yp (t := t) (i := 0) (by omega)
    have hj := Ue (fun y => exT y k) hl
    have e := exT_36 h16 hl k
    rw [e] at hlen
    try simp only [Js, Jt, Ju, Jv, Jw, Jy, tabsL, Jz] at hlen
    rw [hj] at e hlen
    refine Zh fun K40 hK40 => ?_
    refine Zf [3, 0, 3, 0, 3, 1, 3, 3, 3] ?_
    refine Zc rfl (fun _ => Zn Zo (Zb rfl)) ?_
    refine Zv rfl (Zs Zm (Zb rfl) (fun _ => B2.at_ rfl)) ?_
    obtain ⟨hpe, p_145, c_145, hcell, hkid⟩ := Xd hk0 (i := 0) (by omega)
    refine Zc rfl (fun _ => Ym Zl (Zb rfl) Zr (fun _ => by omega) (fun _ => hpe)) ?_
    refine Zv rfl (Zy Zq (Zb rfl) rfl (fun _ => hcell)) ?_
    refine Zc rfl (fun _ => Zk (Zb rfl)) ?_
    refine Yb rfl (Zt Xu Yi (Zi (Zb rfl) (Zi (Zb rfl) (Zp))) rfl) (hE0 _ _ D k _ hkid (by first | omega | (simp only [Js, Jt, Ju, Jv, Jw, Jy, tabsL, Jz]; omega)) (by omega)) ?_
    rintro v148 w148 ⟨rfl, g148⟩
    refine ⟨fun _ => g148, ?_⟩
    have g := g.trans (g148)
    replace B2 := B2.grow (g148)
    have hk0 := hk0.grow (g148)
    try have hkid := hkid.grow (g148)
    try have hkA := hkA.grow (g148)
    try have hkB := hkB.grow (g148)
    refine Zc rfl (fun _ => Yy Zr (Zb rfl) (fun _ => by first | omega | (simp only [Js, Jt, Ju, Jv, Jw, Jy, tabsL, Jz]; omega))) ?_
    refine Zc rfl (fun _ => Yy (Zb rfl) Zr (fun _ => by first | omega | (simp only [Js, Jt, Ju, Jv, Jw, Jy, tabsL, Jz]; omega))) ?_
    refine Zc rfl (fun _ => Ze (Zb rfl)) ?_
    refine Zj [(1, _, _), (2, _, _), (4, _, _)] (Za rfl (Za rfl (Za rfl (Zd _)))) ?_
    refine Zg (hK40 _ _ ?_)
    refine Ye (Yf rfl rfl ?_)
    exact ⟨by rw [e], g⟩
  (try simp only [bsimp] at h16)
  refine Zh fun K41 hK41 => ?_
  refine Zf [3, 3] ?_
  refine Zc rfl (fun _ => Yg (Zb rfl) Zr) ?_
  refine Zc rfl (fun _ => Ze (Zb rfl)) ?_
  refine Zj [(1, _, _), (2, _, _), (4, _, _), (151, _, _)] (Za rfl (Za rfl (Za rfl (Za rfl (Zd _))))) ?_
  refine Zg (hK41 _ _ ?_)
  refine Ya (Zb rfl) (fun h17 => ?_) (fun h17 => ?_)
  · replace h17 := of_decide_eq_true h17
    obtain ⟨hl, he0⟩ := sh37 h17 hx
    have hE0 := ih.e (i := 0) (by omega) he0 hok
    have hc0 := Yp (t := t) (i := 0) (by omega)
    have hj := Ue (fun y => exT y k) hl
    have e := exT_37 h17 hl k
    rw [e] at hlen
    try simp only [Js, Jt, Ju, Jv, Jw, Jy, tabsL, Jz] at hlen
    rw [hj] at e hlen
    refine Zh fun K42 hK42 => ?_
    refine Zf [3, 0, 3, 0, 3, 1, 3, 3, 3] ?_
    refine Zc rfl (fun _ => Zn Zo (Zb rfl)) ?_
    refine Zv rfl (Zs Zm (Zb rfl) (fun _ => B2.at_ rfl)) ?_
    obtain ⟨hpe, p_155, c_155, hcell, hkid⟩ := Xd hk0 (i := 0) (by omega)
    refine Zc rfl (fun _ => Ym Zl (Zb rfl) Zr (fun _ => by omega) (fun _ => hpe)) ?_
    refine Zv rfl (Zy Zq (Zb rfl) rfl (fun _ => hcell)) ?_
    refine Zc rfl (fun _ => Zk (Zb rfl)) ?_
    refine Yb rfl (Zt Xu Yi (Zi (Zb rfl) (Zi (Zb rfl) (Zp))) rfl) (hE0 _ _ D k _ hkid (by first | omega | (simp only [Js, Jt, Ju, Jv, Jw, Jy, tabsL, Jz]; omega)) (by omega)) ?_
    rintro v158 w158 ⟨rfl, g158⟩
    refine ⟨fun _ => g158, ?_⟩
    have g := g.trans (g158)
    replace B2 := B2.grow (g158)
    have hk0 := hk0.grow (g158)
    try have hkid := hkid.grow (g158)
    try have hkA := hkA.grow (g158)
    try have hkB := hkB.grow (g158)
    refine Zc rfl (fun _ => Yy Zr (Zb rfl) (fun _ => by first | omega | (simp only [Js, Jt, Ju, Jv, Jw, Jy, tabsL, Jz]; omega))) ?_
    refine Zc rfl (fun _ => Yy (Zb rfl) Zr (fun _ => by first | omega | (simp only [Js, Jt, Ju, Jv, Jw, Jy, tabsL, Jz]; omega))) ?_
    refine Zc rfl (fun _ => Ze (Zb rfl)) ?_
    refine Zj [(1, _, _), (2, _, _), (4, _, _)] (Za rfl (Za rfl (Za rfl (Zd _)))) ?_
    refine Zg (hK42 _ _ ?_)
    refine Ye (Yf rfl rfl ?_)
    exact ⟨by rw [e], g⟩
  have h38 : t.kind = 38 := by have hks := exp_kinds hx; simp only [bsimp, decide_eq_false_iff_not] at h1 h2 h4 h5 h6 h7 h8 h9 h12 h13 h14 h15 h16 h17; omega
  obtain ⟨hl, hb0⟩ := sh38 h38 hx
  have hB0 := ih.b (i := 0) (by omega) hb0 hok
  have hc0 := Yp (t := t) (i := 0) (by omega)
  have e := exT_38 h38 hl k
  rw [e] at hlen
  simp only [Js, Jt, Ju, Jv, Jw, Jy, tabsL, Jz] at hlen
  refine Yt (hK2 _ _ ?_)
  refine Yn [(1, _, _), (2, _, _), (4, _, _)] (Za rfl (Za rfl (Za rfl (Zd _)))) ?_
  refine Zh fun K43 hK43 => ?_
  refine Zf [3, 0, 3, 0, 3, 1, 3, 3] ?_
  refine Zc rfl (fun _ => Zn Zo (Zb rfl)) ?_
  refine Zv rfl (Zs Zm (Zb rfl) (fun _ => B2.at_ rfl)) ?_
  obtain ⟨hpe, p_163, c_163, hcell, hkid⟩ := Xd hk0 (i := 0) (by omega)
  refine Zc rfl (fun _ => Ym Zl (Zb rfl) Zr (fun _ => by omega) (fun _ => hpe)) ?_
  refine Zv rfl (Zy Zq (Zb rfl) rfl (fun _ => hcell)) ?_
  refine Zc rfl (fun _ => Zk (Zb rfl)) ?_
  refine Yb rfl (Zt Ug Yi (Zi (Zb rfl) (Zi (Zb rfl) (Zp))) rfl) (hB0 _ _ D k _ hkid (by first | omega | (simp only [Js, Jt, Ju, Jv, Jw, Jy, tabsL, Jz]; omega)) (by omega)) ?_
  rintro v166 w166 ⟨rfl, g166⟩
  refine ⟨fun _ => g166, ?_⟩
  have g := g.trans (g166)
  replace B2 := B2.grow (g166)
  have hk0 := hk0.grow (g166)
  try have hkid := hkid.grow (g166)
  try have hkA := hkA.grow (g166)
  try have hkB := hkB.grow (g166)
  refine Zc rfl (fun _ => Yy Zr (Zb rfl) (fun _ => by first | omega | (simp only [Js, Jt, Ju, Jv, Jw, Jy, tabsL, Jz]; omega))) ?_
  refine Zc rfl (fun _ => Ze (Zb rfl)) ?_
  refine Zg (hK43 _ _ ?_)
  refine Ye (Yf rfl rfl ?_)
  exact ⟨by rw [e], g⟩
end Go.Rk
namespace Go.Rk
open Go Go.RowKit
set_option linter.unusedVariables false
theorem RPel.s {t : Nd} (ih : RPel t) {i : Nat} (h : i < t.kids.length) (hx : stmtB (kidAt t i) = true) (hk : okNd t) : RTx Jd stT (kidAt t i) := (ih _ (Yp h)).st hx (okNd_kidAt' hk h)
theorem rvar_ok {t : Nd} (ih : RPel t) (hx : varB t = true) (hok : okNd t) (h6 : t.kind = 6) : RTx fn_r03_varText stT t := by
  intro p c D k w hk0 hlen hc
  have g := G.refl w
  obtain ⟨ht, hl, hty, hin⟩ := sh6 hx
  have hc1 := Yp (t := t) (i := 1) (by omega)
  have e := stT_6 h6 hl k
  have hlT : ((([118, 97, 114, 32] ++ t.text) ++ [32]) ++ typeX (kidAt t 0)).length < 100000000 := by
    rw [e] at hlen
    cases h : decide ((kidAt t 1).kind = 9) <;> rw [h] at hlen <;> simp only [cond_true, cond_false, Js, Jt, Ju, Jv, Jw, Jy, tabsL, Jz] at hlen ⊢ <;> omega
  simp only [Js, Jt, Ju, Jv, Jw, Jy, tabsL, Jz] at hlT
  refine Yl (m := 32) func_r03_varText rfl rfl [(0, True, _), (1, True, _)] (Za rfl (Za rfl (Zd _))) ?_
  refine Zh fun K1 hK1 => ?_
  refine Zf [1, 3] ?_
  refine Xt rfl (Zb rfl) rfl ?_
  intro b2 w2 N2
  have l2 := N2.ge g
  have g := g.trans (N2.g)
  have hk0 := hk0.grow (N2.g)
  try have hkid := hkid.grow (N2.g)
  try have hkA := hkA.grow (N2.g)
  try have hkB := hkB.grow (N2.g)
  have B2 := N2.blk
  refine Zc rfl (fun _ => Ze Zr) ?_
  refine Zj [(1, _, _), (2, _, _), (4, _, _)] (Za rfl (Za rfl (Za rfl (Zd _)))) ?_
  refine Zg (hK1 _ _ ?_)
  refine Zh fun K2 hK2 => ?_
  refine Xx [3, 0, 3, 3, 3, 0, 3, 0, 1, 3, 3] [true, true, true, true, true, true, true, true, true, true, true] [0, 1, 3, 7, 0, 16, 48, 112, 240, 511, 1023] mix (by kernel_rfl) ?_
  have g := g.trans (G.drew _)
  replace B2 := B2.grow (G.drew _)
  have hk0 := hk0.grow (G.drew _)
  try have hkid := hkid.grow (G.drew _)
  try have hkA := hkA.grow (G.drew _)
  try have hkB := hkB.grow (G.drew _)
  obtain ⟨hpA, pA, cA, hcA, hkA⟩ := Xd hk0 (i := 0) (by omega)
  refine Zc rfl (fun _ => Zn Yk (Zb rfl)) ?_
  refine Zv rfl (Zs Ys (Zb rfl) (fun _ => B2.at_ rfl)) ?_
  refine Zc rfl (fun _ => Yy Zr (Zb rfl) (fun _ => by first | omega | (simp only [Js, Jt, Ju, Jv, Jw, Jy, tabsL, Jz]; omega))) ?_
  refine Zc rfl (fun _ => Yy (Zb rfl) Zr (fun _ => by first | omega | (simp only [Js, Jt, Ju, Jv, Jw, Jy, tabsL, Jz]; omega))) ?_
  refine Zc rfl (fun _ => Zn Zo (Zb rfl)) ?_
  refine Zv rfl (Zs Zm (Zb rfl) (fun _ => B2.at_ rfl)) ?_
  refine Zc rfl (fun _ => Ym Zl (Zb rfl) Zr (fun _ => by omega) (fun _ => hpA)) ?_
  refine Zv rfl (Zy Zq (Zb rfl) rfl (fun _ => hcA)) ?_
  refine Yb rfl (Zt Qa Yi (Zi (Zb rfl) (Zp)) rfl) (rtyp_ok _ _ _ (by first | omega | (simp only [Js, Jt, Ju, Jv, Jw, Jy, tabsL, Jz]; omega)) ⟨_, _, rfl⟩) ?_
  rintro v14 w14 ⟨rfl, g14⟩
  refine ⟨fun _ => g14, ?_⟩
  have g := g.trans (g14)
  replace B2 := B2.grow (g14)
  have hk0 := hk0.grow (g14)
  try have hkid := hkid.grow (g14)
  try have hkA := hkA.grow (g14)
  try have hkB := hkB.grow (g14)
  refine Zc rfl (fun _ => Yy (Zb rfl) (Zb rfl) (fun _ => by first | omega | (simp only [Js, Jt, Ju, Jv, Jw, Jy, tabsL, Jz]; omega))) ?_
  refine Zc rfl (fun _ => Ze (Zb rfl)) ?_
  refine Zj [(1, _, _), (2, _, _), (4, _, _), (5, _, _)] (Za rfl (Za rfl (Za rfl (Za rfl (Zd _))))) ?_
  refine Zg (hK2 _ _ ?_)
  refine Zh fun K3 hK3 => ?_
  refine Zh fun K4 hK4 => ?_
  refine Zf [3, 0, 3, 3, 0, 3] ?_
  refine Zc rfl (fun _ => Zn Zo (Zb rfl)) ?_
  refine Zv rfl (Zs Zm (Zb rfl) (fun _ => B2.at_ rfl)) ?_
  obtain ⟨hpe, p_18, c_18, hcell, hkid⟩ := Xd hk0 (i := 1) (by omega)
  refine Zc rfl (fun _ => Ym Zl (Zb rfl) Zr (fun _ => by omega) (fun _ => hpe)) ?_
  refine Zc rfl (fun _ => Zn Yj (Zb rfl)) ?_
  refine Zv rfl (Zs Yv (Zb rfl) (fun _ => hcell 0 _ rfl)) ?_
  refine Zc rfl (fun _ => Uz (Zb rfl) Zr) ?_
  refine Zj [(1, _, _), (2, _, _), (4, _, _), (5, _, _), (21, _, _)] (Za rfl (Za rfl (Za rfl (Za rfl (Za rfl (Zd _)))))) ?_
  refine Zg (hK4 _ _ ?_)
  refine Ya (Zb rfl) (fun h1 => ?_) (fun h1 => ?_)
  · replace h1 : decide ((kidAt t 1).kind = 9) = false := by simpa using h1
    have hE1 := ih.e (i := 1) (by omega) (hin.resolve_left fun h => absurd (Qw h).1 (of_decide_eq_false h1)) hok
    rw [h1, cond_false] at e
    rw [e] at hlen
    simp only [Js, Jt, Ju, Jv, Jw, Jy, tabsL, Jz] at hlen
    refine Zf [3, 3, 0, 3, 0, 3, 1, 3, 3, 3] ?_
    refine Zc rfl (fun _ => Zk (Zb rfl)) ?_
    refine Zc rfl (fun _ => Zn Zo (Zb rfl)) ?_
    refine Zv rfl (Zs Zm (Zb rfl) (fun _ => B2.at_ rfl)) ?_
    obtain ⟨hpe, p_25, c_25, hcell, hkid⟩ := Xd hk0 (i := 1) (by omega)
    refine Zc rfl (fun _ => Ym Zl (Zb rfl) Zr (fun _ => by omega) (fun _ => hpe)) ?_
    refine Zv rfl (Zy Zq (Zb rfl) rfl (fun _ => hcell)) ?_
    refine Zc rfl (fun _ => Zk (Zb rfl)) ?_
    refine Yb rfl (Zt Xu Yi (Zi (Zb rfl) (Zi (Zb rfl) (Zp))) rfl) (hE1 _ _ D k _ hkid (by first | omega | (simp only [Js, Jt, Ju, Jv, Jw, Jy, tabsL, Jz]; omega)) (by omega)) ?_
    rintro v28 w28 ⟨rfl, g28⟩
    refine ⟨fun _ => g28, ?_⟩
    have g := g.trans (g28)
    replace B2 := B2.grow (g28)
    have hk0 := hk0.grow (g28)
    try have hkid := hkid.grow (g28)
    try have hkA := hkA.grow (g28)
    try have hkB := hkB.grow (g28)
    refine Zc rfl (fun _ => Yy Zr (Zb rfl) (fun _ => by first | omega | (simp only [Js, Jt, Ju, Jv, Jw, Jy, tabsL, Jz]; omega))) ?_
    refine Zc rfl (fun _ => Yy (Zb rfl) (Zb rfl) (fun _ => by first | omega | (simp only [Js, Jt, Ju, Jv, Jw, Jy, tabsL, Jz]; omega))) ?_
    refine Zc rfl (fun _ => Ze (Zb rfl)) ?_
    refine Zj [(4, _, _), (5, _, _)] (Za rfl (Za rfl (Zd _))) ?_
    refine Zg (hK3 _ _ ?_)
    refine Zh fun K5 hK5 => ?_
    refine Zf [3, 3] ?_
    refine Zc rfl (fun _ => Zk (Zb rfl)) ?_
    refine Zc rfl (fun _ => Ze (Zb rfl)) ?_
    refine Zj [(4, _, _)] (Za rfl (Zd _)) ?_
    refine Zg (hK5 _ _ ?_)
    refine Ye (Yf rfl rfl ?_)
    exact ⟨by rw [e], g⟩
  replace h1 : decide ((kidAt t 1).kind = 9) = true := by simpa using h1
  rw [h1, cond_true, List.append_nil] at e
  refine Yt (hK3 _ _ ?_)
  refine Yn [(4, _, _), (5, _, _)] (Za rfl (Za rfl (Zd _))) ?_
  refine Zh fun K6 hK6 => ?_
  refine Zf [3, 3] ?_
  refine Zc rfl (fun _ => Zk (Zb rfl)) ?_
  refine Zc rfl (fun _ => Ze (Zb rfl)) ?_
  refine Zj [(4, _, _)] (Za rfl (Zd _)) ?_
  refine Zg (hK6 _ _ ?_)
  refine Ye (Yf rfl rfl ?_)
  exact ⟨by rw [e], g⟩
theorem rif_ok {t : Nd} (ih : RPel t) (hx : ifB t = true) (hok : okNd t) : RTx fn_r03_ifText stT t := by
  intro p c D k w hk0 hlen hc
  have g := G.refl w
  have h18 := if_kind hx
  obtain ⟨hl, he0, hb1, hx2⟩ := sh18 hx
  have hE0 := ih.e (i := 0) (by omega) he0 hok
  have hB1 := ih.b (i := 1) (by omega) hb1 hok
  have hc0 := Yp (t := t) (i := 0) (by omega)
  have hc1 := Yp (t := t) (i := 1) (by omega)
  have hc2 := Yp (t := t) (i := 2) (by omega)
  have e := stT_18 h18 hl (hx2.elim (fun h => .inl (block_kind h)) fun h => h.elim (fun h => .inr (.inl (if_kind h))) fun h => .inr (.inr (Qw h).1)) k
  rw [e] at hlen
  simp only [Js, Jt, Ju, Jv, Jw, Jy, tabsL, Jz] at hlen
  refine Yl (m := 49) func_r03_ifText rfl rfl [(0, True, _), (1, True, _)] (Za rfl (Za rfl (Zd _))) ?_
  refine Zh fun K1 hK1 => ?_
  refine Zf [1, 3] ?_
  refine Xt rfl (Zb rfl) rfl ?_
  intro b2 w2 N2
  have l2 := N2.ge g
  have g := g.trans (N2.g)
  have hk0 := hk0.grow (N2.g)
  try have hkid := hkid.grow (N2.g)
  try have hkA := hkA.grow (N2.g)
  try have hkB := hkB.grow (N2.g)
  have B2 := N2.blk
  refine Zc rfl (fun _ => Ze Zr) ?_
  refine Zj [(1, _, _), (2, _, _), (4, _, _)] (Za rfl (Za rfl (Za rfl (Zd _)))) ?_
  refine Zg (hK1 _ _ ?_)
  refine Zh fun K2 hK2 => ?_
  skip
  refine Xx [3, 0, 3, 0, 3, 1, 3, 3, 3, 0, 3, 0, 3, 1, 3, 3] [true, true, true, true, true, true, true, true, false, false, false, false, false, true, true, true] [0, 1, 3, 7, 0, 31, 63, 127, 0, 256, 768, 1792, 0, 7999, 16383, 32767] mix (by kernel_rfl) ?_
  have g := g.trans (G.drew _)
  replace B2 := B2.grow (G.drew _)
  have hk0 := hk0.grow (G.drew _)
  try have hkid := hkid.grow (G.drew _)
  try have hkA := hkA.grow (G.drew _)
  try have hkB := hkB.grow (G.drew _)
  have C2 := B2
  obtain ⟨hpA, pA, cA, hcA, hkA⟩ := Xd hk0 (i := 0) (by omega)
  obtain ⟨hpB, pB, cB, hcB, hkB⟩ := Xd hk0 (i := 1) (by omega)
  refine Zc rfl (fun _ => Zn Zo (Zb rfl)) ?_
  refine Zv rfl (Zs Zm (Zb rfl) (fun _ => B2.at_ rfl)) ?_
  refine Zc rfl (fun _ => Ym Zl (Zb rfl) Zr (fun _ => by omega) (fun _ => hpA)) ?_
  refine Zv rfl (Zy Zq (Zb rfl) rfl (fun _ => hcA)) ?_
  refine Zc rfl (fun _ => Zk (Zb rfl)) ?_
  refine Yb rfl (Zt Xu Yi (Zi (Zb rfl) (Zi (Zb rfl) (Zp))) rfl) (hE0 _ _ D k _ hkA (by first | omega | (simp only [Js, Jt, Ju, Jv, Jw, Jy, tabsL, Jz]; omega)) (by omega)) ?_
  rintro v11 w11 ⟨rfl, g11⟩
  refine ⟨fun _ => g11, ?_⟩
  have g := g.trans (g11)
  replace B2 := B2.grow (g11)
  have hk0 := hk0.grow (g11)
  try have hkid := hkid.grow (g11)
  try have hkA := hkA.grow (g11)
  try have hkB := hkB.grow (g11)
  refine Zc rfl (fun _ => Yy Zr (Zb rfl) (fun _ => by first | omega | (simp only [Js, Jt, Ju, Jv, Jw, Jy, tabsL, Jz]; omega))) ?_
  refine Zc rfl (fun _ => Yy (Zb rfl) Zr (fun _ => by first | omega | (simp only [Js, Jt, Ju, Jv, Jw, Jy, tabsL, Jz]; omega))) ?_
  refine Zc rfl (fun _ => Zn Zo (Zb rfl)) ?_
  refine Ql rfl (Zs Zm (Zb rfl) (fun _ => C2.at_ rfl)) ?_
  refine Zc rfl (fun _ => Ym Zl (Zb rfl) Zr (fun _ => by omega) (fun _ => hpB)) ?_
  refine Ql rfl (Zy Zq (Zb rfl) rfl (fun _ => hcB)) ?_
  refine Zc rfl (fun _ => Zk (Zb rfl)) ?_
  refine Yb rfl (Zt Ug Yi (Zi (Zb rfl) (Zi (Zb rfl) (Zp))) rfl) (hB1 _ _ D k _ hkB (by first | omega | (simp only [Js, Jt, Ju, Jv, Jw, Jy, tabsL, Jz]; omega)) (by omega)) ?_
  rintro v19 w19 ⟨rfl, g19⟩
  refine ⟨fun _ => g19, ?_⟩
  have g := g.trans (g19)
  replace B2 := B2.grow (g19)
  have hk0 := hk0.grow (g19)
  try have hkid := hkid.grow (g19)
  try have hkA := hkA.grow (g19)
  try have hkB := hkB.grow (g19)
  refine Zc rfl (fun _ => Yy (Zb rfl) (Zb rfl) (fun _ => by first | omega | (simp only [Js, Jt, Ju, Jv, Jw, Jy, tabsL, Jz]; omega))) ?_
  refine Zc rfl (fun _ => Ze (Zb rfl)) ?_
  refine Zj [(1, _, _), (2, _, _), (4, _, _), (5, _, _)] (Za rfl (Za rfl (Za rfl (Za rfl (Zd _))))) ?_
  refine Zg (hK2 _ _ ?_)
  refine Zh fun K3 hK3 => ?_
  refine Zh fun K4 hK4 => ?_
  refine Zf [3, 0, 3, 3, 0] ?_
  refine Zc rfl (fun _ => Zn Zo (Zb rfl)) ?_
  refine Zv rfl (Zs Zm (Zb rfl) (fun _ => B2.at_ rfl)) ?_
  obtain ⟨hpe, p_23, c_23, hcell, hkid⟩ := Xd hk0 (i := 2) (by omega)
  refine Zc rfl (fun _ => Ym Zl (Zb rfl) Zr (fun _ => by omega) (fun _ => hpe)) ?_
  refine Zc rfl (fun _ => Zn Yj (Zb rfl)) ?_
  refine Zv rfl (Zs Yv (Zb rfl) (fun _ => hcell 0 _ rfl)) ?_
  refine Zj [(1, _, _), (2, _, _), (4, _, _), (5, _, _), (25, _, _)] (Za rfl (Za rfl (Za rfl (Za rfl (Za rfl (Zd _)))))) ?_
  refine Zg (hK4 _ _ ?_)
  refine Yr ?_
  refine Zh fun K5 hK5 => ?_
  refine Zf [3, 3] ?_
  refine Zc rfl (fun _ => Yg (Zb rfl) Zr) ?_
  refine Zc rfl (fun _ => Ze (Zb rfl)) ?_
  refine Zj [(1, _, _), (2, _, _), (4, _, _), (5, _, _), (25, _, _), (26, _, _)] (Za rfl (Za rfl (Za rfl (Za rfl (Za rfl (Za rfl (Zd _))))))) ?_
  refine Zg (hK5 _ _ ?_)
  refine Ya (Zb rfl) (fun h1 => ?_) (fun h1 => ?_)
  · replace h1 := of_decide_eq_true h1
    rw [decide_eq_false (show ¬ (kidAt t 2).kind = 9 by omega), cond_false, stT_10 h1] at e hlen
    have hB2 := ih.b (i := 2) (by omega) (hx2.elim id fun h => h.elim (fun h => absurd (if_kind h) (by omega)) fun h => absurd (Qw h).1 (by omega)) hok
    simp only [Js, Jt, Ju, Jv, Jw, Jy, tabsL, Jz] at hlen
    refine Zf [3, 3, 0, 3, 0, 3, 1, 3, 3, 3] ?_
    refine Zc rfl (fun _ => Zk (Zb rfl)) ?_
    refine Zc rfl (fun _ => Zn Zo (Zb rfl)) ?_
    refine Zv rfl (Zs Zm (Zb rfl) (fun _ => B2.at_ rfl)) ?_
    obtain ⟨hpe, p_31, c_31, hcell, hkid⟩ := Xd hk0 (i := 2) (by omega)
    refine Zc rfl (fun _ => Ym Zl (Zb rfl) Zr (fun _ => by omega) (fun _ => hpe)) ?_
    refine Zv rfl (Zy Zq (Zb rfl) rfl (fun _ => hcell)) ?_
    refine Zc rfl (fun _ => Zk (Zb rfl)) ?_
    refine Yb rfl (Zt Ug Yi (Zi (Zb rfl) (Zi (Zb rfl) (Zp))) rfl) (hB2 _ _ D k _ hkid (by first | omega | (simp only [Js, Jt, Ju, Jv, Jw, Jy, tabsL, Jz]; omega)) (by omega)) ?_
    rintro v34 w34 ⟨rfl, g34⟩
    refine ⟨fun _ => g34, ?_⟩
    have g := g.trans (g34)
    replace B2 := B2.grow (g34)
    have hk0 := hk0.grow (g34)
    try have hkid := hkid.grow (g34)
    try have hkA := hkA.grow (g34)
    try have hkB := hkB.grow (g34)
    refine Zc rfl (fun _ => Yy Zr (Zb rfl) (fun _ => by first | omega | (simp only [Js, Jt, Ju, Jv, Jw, Jy, tabsL, Jz]; omega))) ?_
    refine Zc rfl (fun _ => Yy (Zb rfl) (Zb rfl) (fun _ => by first | omega | (simp only [Js, Jt, Ju, Jv, Jw, Jy, tabsL, Jz]; omega))) ?_
    refine Zc rfl (fun _ => Ze (Zb rfl)) ?_
    refine Zj [(4, _, _), (5, _, _)] (Za rfl (Za rfl (Zd _))) ?_
    refine Zg (hK3 _ _ ?_)
    refine Zh fun K6 hK6 => ?_
    refine Zf [3, 3] ?_
    refine Zc rfl (fun _ => Zk (Zb rfl)) ?_
    refine Zc rfl (fun _ => Ze (Zb rfl)) ?_
    refine Zg (hK6 _ _ ?_)
    refine Ye (Yf rfl rfl ?_)
    exact ⟨by rw [e], g⟩
  (try simp only [bsimp] at h1)
  refine Zh fun K7 hK7 => ?_
  refine Zf [3, 3] ?_
  refine Zc rfl (fun _ => Yg (Zb rfl) Zr) ?_
  refine Zc rfl (fun _ => Ze (Zb rfl)) ?_
  refine Zj [(1, _, _), (2, _, _), (4, _, _), (5, _, _), (37, _, _)] (Za rfl (Za rfl (Za rfl (Za rfl (Za rfl (Zd _)))))) ?_
  refine Zg (hK7 _ _ ?_)
  refine Ya (Zb rfl) (fun h2 => ?_) (fun h2 => ?_)
  · replace h2 := of_decide_eq_true h2
    rw [decide_eq_false (show ¬ (kidAt t 2).kind = 9 by omega), cond_false] at e hlen
    have hI2 := (ih _ hc2).fi (hx2.elim (fun h => absurd (block_kind h) (by omega)) fun h => h.elim id fun h => absurd (Qw h).1 (by omega)) (okNd_kidAt' hok (by omega))
    simp only [Js, Jt, Ju, Jv, Jw, Jy, tabsL, Jz] at hlen
    refine Zf [3, 3, 0, 3, 0, 3, 1, 3, 3, 3] ?_
    refine Zc rfl (fun _ => Zk (Zb rfl)) ?_
    refine Zc rfl (fun _ => Zn Zo (Zb rfl)) ?_
    refine Zv rfl (Zs Zm (Zb rfl) (fun _ => B2.at_ rfl)) ?_
    obtain ⟨hpe, p_42, c_42, hcell, hkid⟩ := Xd hk0 (i := 2) (by omega)
    refine Zc rfl (fun _ => Ym Zl (Zb rfl) Zr (fun _ => by omega) (fun _ => hpe)) ?_
    refine Zv rfl (Zy Zq (Zb rfl) rfl (fun _ => hcell)) ?_
    refine Zc rfl (fun _ => Zk (Zb rfl)) ?_
    refine Yb rfl (Zt go_r03_ifText Yi (Zi (Zb rfl) (Zi (Zb rfl) (Zp))) rfl) (hI2 _ _ D k _ hkid (by first | omega | (simp only [Js, Jt, Ju, Jv, Jw, Jy, tabsL, Jz]; omega)) (by omega)) ?_
    rintro v45 w45 ⟨rfl, g45⟩
    refine ⟨fun _ => g45, ?_⟩
    have g := g.trans (g45)
    replace B2 := B2.grow (g45)
    have hk0 := hk0.grow (g45)
    try have hkid := hkid.grow (g45)
    try have hkA := hkA.grow (g45)
    try have hkB := hkB.grow (g45)
    refine Zc rfl (fun _ => Yy Zr (Zb rfl) (fun _ => by first | omega | (simp only [Js, Jt, Ju, Jv, Jw, Jy, tabsL, Jz]; omega))) ?_
    refine Zc rfl (fun _ => Yy (Zb rfl) (Zb rfl) (fun _ => by first | omega | (simp only [Js, Jt, Ju, Jv, Jw, Jy, tabsL, Jz]; omega))) ?_
    refine Zc rfl (fun _ => Ze (Zb rfl)) ?_
    refine Zj [(4, _, _), (5, _, _)] (Za rfl (Za rfl (Zd _))) ?_
    refine Zg (hK3 _ _ ?_)
    refine Zh fun K8 hK8 => ?_
    refine Zf [3, 3] ?_
    refine Zc rfl (fun _ => Zk (Zb rfl)) ?_
    refine Zc rfl (fun _ => Ze (Zb rfl)) ?_
    refine Zg (hK8 _ _ ?_)
    refine Ye (Yf rfl rfl ?_)
    exact ⟨by rw [e], g⟩
  have hk9 : (kidAt t 2).kind = 9 := by
    simp only [bsimp, decide_eq_false_iff_not] at h1 h2
    exact hx2.elim (fun h => absurd (block_kind h) h1) fun h => h.elim (fun h => absurd (if_kind h) h2) fun h => (Qw h).1
  rw [decide_eq_true hk9, cond_true, List.append_nil] at e
  refine Yt (hK3 _ _ ?_)
  refine Yn [(4, _, _), (5, _, _)] (Za rfl (Za rfl (Zd _))) ?_
  refine Zh fun K9 hK9 => ?_
  refine Zf [3, 3] ?_
  refine Zc rfl (fun _ => Zk (Zb rfl)) ?_
  refine Zc rfl (fun _ => Ze (Zb rfl)) ?_
  refine Zg (hK9 _ _ ?_)
  refine Ye (Yf rfl rfl ?_)
  exact ⟨by rw [e], g⟩
end Go.Rk
namespace Go.Rk
open Go Go.RowKit
set_option linter.unusedVariables false
theorem st_kinds' {t : Nd} (h : stmtB t = true) : t.kind = 6 ∨ t.kind = 10 ∨ t.kind = 11 ∨ t.kind = 12 ∨ t.kind = 13 ∨ t.kind = 14 ∨ t.kind = 15 ∨ t.kind = 16 ∨ t.kind = 17 ∨ t.kind = 21 ∨ t.kind = 18 ∨ t.kind = 19 ∨ t.kind = 20 ∨ t.kind = 22 := by
  have h1 := (Bool.and_eq_true_iff.1 h).1
  unfold stK at h1
  simp only [anyK, Bool.or_eq_true, decide_eq_true_eq] at h1
  omega
set_option maxHeartbeats 4000000 in
theorem rstmt_ok {t : Nd} (ih : RPel t) (hx : stmtB t = true) (hok : okNd t) (hsel : t.kind = 22 → RTx fn_r03_selectText stT t) : RTx Jd stT t := by
  intro p c D k w hk0 hlen hc
  have g := G.refl w
  have hcn : count t = 1 + (t.kids.map count).sum := Wt t
  refine Yl (m := 158) func_r03_stmt rfl rfl [(0, True, _), (1, True, _)] (Za rfl (Za rfl (Zd _))) ?_
  refine Zh fun K1 hK1 => ?_
  refine Zf [1, 3] ?_
  refine Xt rfl (Zb rfl) rfl ?_
  intro b2 w2 N2
  have l2 := N2.ge g
  have g := g.trans (N2.g)
  have hk0 := hk0.grow (N2.g)
  try have hkid := hkid.grow (N2.g)
  try have hkA := hkA.grow (N2.g)
  try have hkB := hkB.grow (N2.g)
  have B2 := N2.blk
  refine Zc rfl (fun _ => Ze Zr) ?_
  refine Zj [(1, _, _), (2, _, _), (4, _, _)] (Za rfl (Za rfl (Za rfl (Zd _)))) ?_
  refine Zg (hK1 _ _ ?_)
  refine Zh fun K2 hK2 => ?_
  refine Zh fun K3 hK3 => ?_
  refine Zf [3, 0] ?_
  refine Zc rfl (fun _ => Zn Yj (Zb rfl)) ?_
  refine Zv rfl (Zs Yv (Zb rfl) (fun _ => B2.at_ rfl)) ?_
  refine Zj [(1, _, _), (2, _, _), (4, _, _), (6, _, _)] (Za rfl (Za rfl (Za rfl (Za rfl (Zd _))))) ?_
  refine Zg (hK3 _ _ ?_)
  refine Yr ?_
  refine Zh fun K4 hK4 => ?_
  refine Zf [3, 3] ?_
  refine Zc rfl (fun _ => Yg (Zb rfl) Zr) ?_
  refine Zc rfl (fun _ => Ze (Zb rfl)) ?_
  refine Zj [(1, _, _), (2, _, _), (4, _, _), (6, _, _), (7, _, _)] (Za rfl (Za rfl (Za rfl (Za rfl (Za rfl (Zd _)))))) ?_
  refine Zg (hK4 _ _ ?_)
  refine Ya (Zb rfl) (fun h1 => ?_) (fun h1 => ?_)
  · replace h1 := of_decide_eq_true h1
    have e : stT t k = stT t k := rfl
    refine Zh fun K5 hK5 => ?_
    refine Zf [0, 3, 1, 3] ?_
    refine Zv rfl (Zy Zq (Zb rfl) rfl (fun _ => B2.row)) ?_
    refine Zc rfl (fun _ => Zk (Zb rfl)) ?_
    refine Yb rfl (Zt go_r03_varText Yi (Zi (Zb rfl) (Zi (Zb rfl) (Zp))) rfl) (rvar_ok ih (sh6s h1 hx) hok h1 _ _ D k _ hk0 hlen hc) ?_
    rintro v11 w11 ⟨rfl, g11⟩
    refine ⟨fun _ => g11, ?_⟩
    have g := g.trans (g11)
    replace B2 := B2.grow (g11)
    have hk0 := hk0.grow (g11)
    try have hkid := hkid.grow (g11)
    try have hkA := hkA.grow (g11)
    try have hkB := hkB.grow (g11)
    refine Zc rfl (fun _ => Ze (Zb rfl)) ?_
    refine Zj [(1, _, _), (2, _, _), (4, _, _)] (Za rfl (Za rfl (Za rfl (Zd _)))) ?_
    refine Zg (hK5 _ _ ?_)
    refine Ye (Yf rfl rfl ?_)
    exact ⟨by first | (rw [e]; done) | (rw [e]; rfl) | rfl, g⟩
  (try simp only [bsimp] at h1)
  refine Zh fun K6 hK6 => ?_
  refine Zf [3, 3] ?_
  refine Zc rfl (fun _ => Yg (Zb rfl) Zr) ?_
  refine Zc rfl (fun _ => Ze (Zb rfl)) ?_
  refine Zj [(1, _, _), (2, _, _), (4, _, _), (6, _, _), (12, _, _)] (Za rfl (Za rfl (Za rfl (Za rfl (Za rfl (Zd _)))))) ?_
  refine Zg (hK6 _ _ ?_)
  refine Ya (Zb rfl) (fun h2 => ?_) (fun h2 => ?_)
  · replace h2 := of_decide_eq_true h2
    have e := stT_10 h2 k
    rw [e] at hlen
    refine Zh fun K7 hK7 => ?_
    refine Zf [0, 3, 1, 3] ?_
    refine Zv rfl (Zy Zq (Zb rfl) rfl (fun _ => B2.row)) ?_
    refine Zc rfl (fun _ => Zk (Zb rfl)) ?_
    refine Yb rfl (Zt Ug Yi (Zi (Zb rfl) (Zi (Zb rfl) (Zp))) rfl) (ih.b0 (sh10s h2 hx) hok _ _ D k _ hk0 hlen hc) ?_
    rintro v16 w16 ⟨rfl, g16⟩
    refine ⟨fun _ => g16, ?_⟩
    have g := g.trans (g16)
    replace B2 := B2.grow (g16)
    have hk0 := hk0.grow (g16)
    try have hkid := hkid.grow (g16)
    try have hkA := hkA.grow (g16)
    try have hkB := hkB.grow (g16)
    refine Zc rfl (fun _ => Ze (Zb rfl)) ?_
    refine Zj [(1, _, _), (2, _, _), (4, _, _)] (Za rfl (Za rfl (Za rfl (Zd _)))) ?_
    refine Zg (hK7 _ _ ?_)
    refine Ye (Yf rfl rfl ?_)
    exact ⟨by first | (rw [e]; done) | (rw [e]; rfl) | rfl, g⟩
  (try simp only [bsimp] at h2)
  refine Zh fun K8 hK8 => ?_
  refine Zf [3, 3] ?_
  refine Zc rfl (fun _ => Yg (Zb rfl) Zr) ?_
  refine Zc rfl (fun _ => Ze (Zb rfl)) ?_
  refine Zj [(1, _, _), (2, _, _), (4, _, _), (6, _, _), (17, _, _)] (Za rfl (Za rfl (Za rfl (Za rfl (Za rfl (Zd _)))))) ?_
  refine Zg (hK8 _ _ ?_)
  refine Ya (Zb rfl) (fun h3 => ?_) (fun h3 => ?_)
  · replace h3 := of_decide_eq_true h3
    obtain ⟨ht, hl, he0⟩ := sh11 h3 hx
    have hE0 := ih.e (i := 0) (by omega) he0 hok
    have hc0 := Yp (t := t) (i := 0) (by omega)
    have e := stT_11 h3 hl k
    rw [e] at hlen
    try simp only [Js, Jt, Ju, Jv, Jw, Jy, tabsL, Jz] at hlen
    refine Zh fun K9 hK9 => ?_
    refine Xx [3, 0, 3, 3, 0, 3, 0, 3, 1, 3, 3] [true, true, true, true, true, true, true, true, true, true, true] [0, 1, 3, 0, 8, 24, 56, 0, 248, 511, 1023] mix (by kernel_rfl) ?_
    have g := g.trans (G.drew _)
    replace B2 := B2.grow (G.drew _)
    have hk0 := hk0.grow (G.drew _)
    try have hkid := hkid.grow (G.drew _)
    try have hkA := hkA.grow (G.drew _)
    try have hkB := hkB.grow (G.drew _)
    obtain ⟨hpA, pA, cA, hcA, hkA⟩ := Xd hk0 (i := 0) (by omega)
    refine Zc rfl (fun _ => Zn Yk (Zb rfl)) ?_
    refine Zv rfl (Zs Ys (Zb rfl) (fun _ => B2.at_ rfl)) ?_
    refine Zc rfl (fun _ => Yy (Zb rfl) Zr (fun _ => by first | omega | (simp only [Js, Jt, Ju, Jv, Jw, Jy, tabsL, Jz]; omega))) ?_
    refine Zc rfl (fun _ => Zn Zo (Zb rfl)) ?_
    refine Zv rfl (Zs Zm (Zb rfl) (fun _ => B2.at_ rfl)) ?_
    refine Zc rfl (fun _ => Ym Zl (Zb rfl) Zr (fun _ => by omega) (fun _ => hpA)) ?_
    refine Zv rfl (Zy Zq (Zb rfl) rfl (fun _ => hcA)) ?_
    refine Zc rfl (fun _ => Zk (Zb rfl)) ?_
    refine Yb rfl (Zt Xu Yi (Zi (Zb rfl) (Zi (Zb rfl) (Zp))) rfl) (hE0 _ _ D k _ hkA (by first | omega | (simp only [Js, Jt, Ju, Jv, Jw, Jy, tabsL, Jz]; omega)) (by omega)) ?_
    rintro v27 w27 ⟨rfl, g27⟩
    refine ⟨fun _ => g27, ?_⟩
    have g := g.trans (g27)
    replace B2 := B2.grow (g27)
    have hk0 := hk0.grow (g27)
    try have hkid := hkid.grow (g27)
    try have hkA := hkA.grow (g27)
    try have hkB := hkB.grow (g27)
    refine Zc rfl (fun _ => Yy (Zb rfl) (Zb rfl) (fun _ => by first | omega | (simp only [Js, Jt, Ju, Jv, Jw, Jy, tabsL, Jz]; omega))) ?_
    refine Zc rfl (fun _ => Ze (Zb rfl)) ?_
    refine Zj [(1, _, _), (2, _, _), (4, _, _)] (Za rfl (Za rfl (Za rfl (Zd _)))) ?_
    refine Zg (hK9 _ _ ?_)
    refine Ye (Yf rfl rfl ?_)
    exact ⟨by first | (rw [e]; done) | (rw [e]; rfl) | rfl, g⟩
  (try simp only [bsimp] at h3)
  refine Zh fun K10 hK10 => ?_
  refine Zf [3, 3] ?_
  refine Zc rfl (fun _ => Yg (Zb rfl) Zr) ?_
  refine Zc rfl (fun _ => Ze (Zb rfl)) ?_
  refine Zj [(1, _, _), (2, _, _), (4, _, _), (6, _, _), (29, _, _)] (Za rfl (Za rfl (Za rfl (Za rfl (Za rfl (Zd _)))))) ?_
  refine Zg (hK10 _ _ ?_)
  refine Ya (Zb rfl) (fun h4 => ?_) (fun h4 => ?_)
  · replace h4 := of_decide_eq_true h4
    obtain ⟨hl, he0, he1⟩ := sh12 h4 hx
    have hE0 := ih.e (i := 0) (by omega) he0 hok
    have hE1 := ih.e (i := 1) (by omega) he1 hok
    have hc0 := Yp (t := t) (i := 0) (by omega)
    have hc1 := Yp (t := t) (i := 1) (by omega)
    have e := stT_12 h4 hl k
    rw [e] at hlen
    try simp only [Js, Jt, Ju, Jv, Jw, Jy, tabsL, Jz] at hlen
    refine Zh fun K11 hK11 => ?_
    skip
    refine Xx [3, 0, 3, 0, 3, 1, 3, 3, 0, 3, 0, 3, 1, 3, 3] [true, true, true, true, true, true, true, false, false, false, false, false, true, true, true] [0, 1, 3, 7, 0, 31, 63, 0, 128, 384, 896, 0, 4031, 8191, 16383] mix (by kernel_rfl) ?_
    have g := g.trans (G.drew _)
    replace B2 := B2.grow (G.drew _)
    have hk0 := hk0.grow (G.drew _)
    try have hkid := hkid.grow (G.drew _)
    try have hkA := hkA.grow (G.drew _)
    try have hkB := hkB.grow (G.drew _)
    have C2 := B2
    obtain ⟨hpA, pA, cA, hcA, hkA⟩ := Xd hk0 (i := 0) (by omega)
    obtain ⟨hpB, pB, cB, hcB, hkB⟩ := Xd hk0 (i := 1) (by omega)
    refine Zc rfl (fun _ => Zn Zo (Zb rfl)) ?_
    refine Zv rfl (Zs Zm (Zb rfl) (fun _ => B2.at_ rfl)) ?_
    refine Zc rfl (fun _ => Ym Zl (Zb rfl) Zr (fun _ => by omega) (fun _ => hpA)) ?_
    refine Zv rfl (Zy Zq (Zb rfl) rfl (fun _ => hcA)) ?_
    refine Zc rfl (fun _ => Zk (Zb rfl)) ?_
    refine Yb rfl (Zt Xu Yi (Zi (Zb rfl) (Zi (Zb rfl) (Zp))) rfl) (hE0 _ _ D k _ hkA (by first | omega | (simp only [Js, Jt, Ju, Jv, Jw, Jy, tabsL, Jz]; omega)) (by omega)) ?_
    rintro v36 w36 ⟨rfl, g36⟩
    refine ⟨fun _ => g36, ?_⟩
    have g := g.trans (g36)
    replace B2 := B2.grow (g36)
    have hk0 := hk0.grow (g36)
    try have hkid := hkid.grow (g36)
    try have hkA := hkA.grow (g36)
    try have hkB := hkB.grow (g36)
    refine Zc rfl (fun _ => Yy (Zb rfl) Zr (fun _ => by first | omega | (simp only [Js, Jt, Ju, Jv, Jw, Jy, tabsL, Jz]; omega))) ?_
    refine Zc rfl (fun _ => Zn Zo (Zb rfl)) ?_
    refine Ql rfl (Zs Zm (Zb rfl) (fun _ => C2.at_ rfl)) ?_
    refine Zc rfl (fun _ => Ym Zl (Zb rfl) Zr (fun _ => by omega) (fun _ => hpB)) ?_
    refine Ql rfl (Zy Zq (Zb rfl) rfl (fun _ => hcB)) ?_
    refine Zc rfl (fun _ => Zk (Zb rfl)) ?_
    refine Yb rfl (Zt Xu Yi (Zi (Zb rfl) (Zi (Zb rfl) (Zp))) rfl) (hE1 _ _ D k _ hkB (by first | omega | (simp only [Js, Jt, Ju, Jv, Jw, Jy, tabsL, Jz]; omega)) (by omega)) ?_
    rintro v43 w43 ⟨rfl, g43⟩
    refine ⟨fun _ => g43, ?_⟩
    have g := g.trans (g43)
    replace B2 := B2.grow (g43)
    have hk0 := hk0.grow (g43)
    try have hkid := hkid.grow (g43)
    try have hkA := hkA.grow (g43)
    try have hkB := hkB.grow (g43)
    refine Zc rfl (fun _ => Yy (Zb rfl) (Zb rfl) (fun _ => by first | omega | (simp only [Js, Jt, Ju, Jv, Jw, Jy, tabsL, Jz]; omega))) ?_
    refine Zc rfl (fun _ => Ze (Zb rfl)) ?_
    refine Zj [(1, _, _), (2, _, _), (4, _, _)] (Za rfl (Za rfl (Za rfl (Zd _)))) ?_
    refine Zg (hK11 _ _ ?_)
    refine Ye (Yf rfl rfl ?_)
    exact ⟨by first | (rw [e]; done) | (rw [e]; rfl) | rfl, g⟩
  (try simp only [bsimp] at h4)
  refine Zh fun K12 hK12 => ?_
  refine Zf [3, 3] ?_
  refine Zc rfl (fun _ => Yg (Zb rfl) Zr) ?_
  refine Zc rfl (fun _ => Ze (Zb rfl)) ?_
  refine Zj [(1, _, _), (2, _, _), (4, _, _), (6, _, _), (45, _, _)] (Za rfl (Za rfl (Za rfl (Za rfl (Za rfl (Zd _)))))) ?_
  refine Zg (hK12 _ _ ?_)
  refine Ya (Zb rfl) (fun h5 => ?_) (fun h5 => ?_)
  · replace h5 := of_decide_eq_true h5
    obtain ⟨hl, he0⟩ := sh13 h5 hx
    have hE0 := ih.e (i := 0) (by omega) he0 hok
    have hc0 := Yp (t := t) (i := 0) (by omega)
    have e := stT_13 h5 hl k
    rw [e] at hlen
    refine Zh fun K13 hK13 => ?_
    refine Zf [3, 0, 3, 0, 3, 1, 3] ?_
    refine Zc rfl (fun _ => Zn Zo (Zb rfl)) ?_
    refine Zv rfl (Zs Zm (Zb rfl) (fun _ => B2.at_ rfl)) ?_
    obtain ⟨hpe, p_49, c_49, hcell, hkid⟩ := Xd hk0 (i := 0) (by omega)
    refine Zc rfl (fun _ => Ym Zl (Zb rfl) Zr (fun _ => by omega) (fun _ => hpe)) ?_
    refine Zv rfl (Zy Zq (Zb rfl) rfl (fun _ => hcell)) ?_
    refine Zc rfl (fun _ => Zk (Zb rfl)) ?_
    refine Yb rfl (Zt Xu Yi (Zi (Zb rfl) (Zi (Zb rfl) (Zp))) rfl) (hE0 _ _ D k _ hkid hlen (by omega)) ?_
    rintro v52 w52 ⟨rfl, g52⟩
    refine ⟨fun _ => g52, ?_⟩
    have g := g.trans (g52)
    replace B2 := B2.grow (g52)
    have hk0 := hk0.grow (g52)
    try have hkid := hkid.grow (g52)
    try have hkA := hkA.grow (g52)
    try have hkB := hkB.grow (g52)
    refine Zc rfl (fun _ => Ze (Zb rfl)) ?_
    refine Zj [(1, _, _), (2, _, _), (4, _, _)] (Za rfl (Za rfl (Za rfl (Zd _)))) ?_
    refine Zg (hK13 _ _ ?_)
    refine Ye (Yf rfl rfl ?_)
    exact ⟨by first | (rw [e]; done) | (rw [e]; rfl) | rfl, g⟩
  (try simp only [bsimp] at h5)
  refine Zh fun K14 hK14 => ?_
  refine Zf [3, 3] ?_
  refine Zc rfl (fun _ => Yg (Zb rfl) Zr) ?_
  refine Zc rfl (fun _ => Ze (Zb rfl)) ?_
  refine Zj [(1, _, _), (2, _, _), (4, _, _), (6, _, _), (53, _, _)] (Za rfl (Za rfl (Za rfl (Za rfl (Za rfl (Zd _)))))) ?_
  refine Zg (hK14 _ _ ?_)
  refine Ya (Zb rfl) (fun h6 => ?_) (fun h6 => ?_)
  · replace h6 := of_decide_eq_true h6
    obtain ⟨hl, he0⟩ := sh14 h6 hx
    have hE0 := ih.e (i := 0) (by omega) he0 hok
    have hc0 := Yp (t := t) (i := 0) (by omega)
    have e := stT_14 h6 hl k
    rw [e] at hlen
    try simp only [Js, Jt, Ju, Jv, Jw, Jy, tabsL, Jz] at hlen
    refine Zh fun K15 hK15 => ?_
    refine Zf [3, 0, 3, 0, 3, 1, 3, 3] ?_
    refine Zc rfl (fun _ => Zn Zo (Zb rfl)) ?_
    refine Zv rfl (Zs Zm (Zb rfl) (fun _ => B2.at_ rfl)) ?_
    obtain ⟨hpe, p_57, c_57, hcell, hkid⟩ := Xd hk0 (i := 0) (by omega)
    refine Zc rfl (fun _ => Ym Zl (Zb rfl) Zr (fun _ => by omega) (fun _ => hpe)) ?_
    refine Zv rfl (Zy Zq (Zb rfl) rfl (fun _ => hcell)) ?_
    refine Zc rfl (fun _ => Zk (Zb rfl)) ?_
    refine Yb rfl (Zt Xu Yi (Zi (Zb rfl) (Zi (Zb rfl) (Zp))) rfl) (hE0 _ _ D k _ hkid (by first | omega | (simp only [Js, Jt, Ju, Jv, Jw, Jy, tabsL, Jz]; omega)) (by omega)) ?_
    rintro v60 w60 ⟨rfl, g60⟩
    refine ⟨fun _ => g60, ?_⟩
    have g := g.trans (g60)
    replace B2 := B2.grow (g60)
    have hk0 := hk0.grow (g60)
    try have hkid := hkid.grow (g60)
    try have hkA := hkA.grow (g60)
    try have hkB := hkB.grow (g60)
    refine Zc rfl (fun _ => Yy Zr (Zb rfl) (fun _ => by first | omega | (simp only [Js, Jt, Ju, Jv, Jw, Jy, tabsL, Jz]; omega))) ?_
    refine Zc rfl (fun _ => Ze (Zb rfl)) ?_
    refine Zj [(1, _, _), (2, _, _), (4, _, _)] (Za rfl (Za rfl (Za rfl (Zd _)))) ?_
    refine Zg (hK15 _ _ ?_)
    refine Ye (Yf rfl rfl ?_)
    exact ⟨by first | (rw [e]; done) | (rw [e]; rfl) | rfl, g⟩
  (try simp only [bsimp] at h6)
  refine Zh fun K16 hK16 => ?_
  refine Zf [3, 3] ?_
  refine Zc rfl (fun _ => Yg (Zb rfl) Zr) ?_
  refine Zc rfl (fun _ => Ze (Zb rfl)) ?_
  refine Zj [(1, _, _), (2, _, _), (4, _, _), (6, _, _), (62, _, _)] (Za rfl (Za rfl (Za rfl (Za rfl (Za rfl (Zd _)))))) ?_
  refine Zg (hK16 _ _ ?_)
  refine Ya (Zb rfl) (fun h7 => ?_) (fun h7 => ?_)
  · replace h7 := of_decide_eq_true h7
    obtain ⟨hl, he0⟩ := sh15 h7 hx
    have hE0 := ih.e (i := 0) (by omega) he0 hok
    have hc0 := Yp (t := t) (i := 0) (by omega)
    have e := stT_15 h7 hl k
    rw [e] at hlen
    try simp only [Js, Jt, Ju, Jv, Jw, Jy, tabsL, Jz] at hlen
    refine Zh fun K17 hK17 => ?_
    refine Zf [3, 0, 3, 0, 3, 1, 3, 3] ?_
    refine Zc rfl (fun _ => Zn Zo (Zb rfl)) ?_
    refine Zv rfl (Zs Zm (Zb rfl) (fun _ => B2.at_ rfl)) ?_
    obtain ⟨hpe, p_66, c_66, hcell, hkid⟩ := Xd hk0 (i := 0) (by omega)
    refine Zc rfl (fun _ => Ym Zl (Zb rfl) Zr (fun _ => by omega) (fun _ => hpe)) ?_
    refine Zv rfl (Zy Zq (Zb rfl) rfl (fun _ => hcell)) ?_
    refine Zc rfl (fun _ => Zk (Zb rfl)) ?_
    refine Yb rfl (Zt Xu Yi (Zi (Zb rfl) (Zi (Zb rfl) (Zp))) rfl) (hE0 _ _ D k _ hkid (by first | omega | (simp only [Js, Jt, Ju, Jv, Jw, Jy, tabsL, Jz]; omega)) (by omega)) ?_
    rintro v69 w69 ⟨rfl, g69⟩
    refine ⟨fun _ => g69, ?_⟩
    have g := g.trans (g69)
    replace B2 := B2.grow (g69)
    have hk0 := hk0.grow (g69)
    try have hkid := hkid.grow (g69)
    try have hkA := hkA.grow (g69)
    try have hkB := hkB.grow (g69)
    refine Zc rfl (fun _ => Yy Zr (Zb rfl) (fun _ => by first | omega | (simp only [Js, Jt, Ju, Jv, Jw, Jy, tabsL, Jz]; omega))) ?_
    refine Zc rfl (fun _ => Ze (Zb rfl)) ?_
    refine Zj [(1, _, _), (2, _, _), (4, _, _)] (Za rfl (Za rfl (Za rfl (Zd _)))) ?_
    refine Zg (hK17 _ _ ?_)
    refine Ye (Yf rfl rfl ?_)
    exact ⟨by first | (rw [e]; done) | (rw [e]; rfl) | rfl, g⟩
  (try simp only [bsimp] at h7)
  refine Zh fun K18 hK18 => ?_
  refine Zf [3, 3] ?_
  refine Zc rfl (fun _ => Yg (Zb rfl) Zr) ?_
  refine Zc rfl (fun _ => Ze (Zb rfl)) ?_
  refine Zj [(1, _, _), (2, _, _), (4, _, _), (6, _, _), (71, _, _)] (Za rfl (Za rfl (Za rfl (Za rfl (Za rfl (Zd _)))))) ?_
  refine Zg (hK18 _ _ ?_)
  refine Ya (Zb rfl) (fun h8 => ?_) (fun h8 => ?_)
  · replace h8 := of_decide_eq_true h8
    obtain ⟨hl, he0, he1⟩ := sh16 h8 hx
    have hE0 := ih.e (i := 0) (by omega) he0 hok
    have hE1 := ih.e (i := 1) (by omega) he1 hok
    have hc0 := Yp (t := t) (i := 0) (by omega)
    have hc1 := Yp (t := t) (i := 1) (by omega)
    have e := stT_16 h8 hl k
    rw [e] at hlen
    try simp only [Js, Jt, Ju, Jv, Jw, Jy, tabsL, Jz] at hlen
    refine Zh fun K19 hK19 => ?_
    skip
    refine Xx [3, 0, 3, 0, 3, 1, 3, 3, 0, 3, 0, 3, 1, 3, 3] [true, true, true, true, true, true, true, false, false, false, false, false, true, true, true] [0, 1, 3, 7, 0, 31, 63, 0, 128, 384, 896, 0, 4031, 8191, 16383] mix (by kernel_rfl) ?_
    have g := g.trans (G.drew _)
    replace B2 := B2.grow (G.drew _)
    have hk0 := hk0.grow (G.drew _)
    try have hkid := hkid.grow (G.drew _)
    try have hkA := hkA.grow (G.drew _)
    try have hkB := hkB.grow (G.drew _)
    have C2 := B2
    obtain ⟨hpA, pA, cA, hcA, hkA⟩ := Xd hk0 (i := 0) (by omega)
    obtain ⟨hpB, pB, cB, hcB, hkB⟩ := Xd hk0 (i := 1) (by omega)
    refine Zc rfl (fun _ => Zn Zo (Zb rfl)) ?_
    refine Zv rfl (Zs Zm (Zb rfl) (fun _ => B2.at_ rfl)) ?_
    refine Zc rfl (fun _ => Ym Zl (Zb rfl) Zr (fun _ => by omega) (fun _ => hpA)) ?_
    refine Zv rfl (Zy Zq (Zb rfl) rfl (fun _ => hcA)) ?_
    refine Zc rfl (fun _ => Zk (Zb rfl)) ?_
    refine Yb rfl (Zt Xu Yi (Zi (Zb rfl) (Zi (Zb rfl) (Zp))) rfl) (hE0 _ _ D k _ hkA (by first | omega | (simp only [Js, Jt, Ju, Jv, Jw, Jy, tabsL, Jz]; omega)) (by omega)) ?_
    rintro v78 w78 ⟨rfl, g78⟩
    refine ⟨fun _ => g78, ?_⟩
    have g := g.trans (g78)
    replace B2 := B2.grow (g78)
    have hk0 := hk0.grow (g78)
    try have hkid := hkid.grow (g78)
    try have hkA := hkA.grow (g78)
    try have hkB := hkB.grow (g78)
    refine Zc rfl (fun _ => Yy (Zb rfl) Zr (fun _ => by first | omega | (simp only [Js, Jt, Ju, Jv, Jw, Jy, tabsL, Jz]; omega))) ?_
    refine Zc rfl (fun _ => Zn Zo (Zb rfl)) ?_
    refine Ql rfl (Zs Zm (Zb rfl) (fun _ => C2.at_ rfl)) ?_
    refine Zc rfl (fun _ => Ym Zl (Zb rfl) Zr (fun _ => by omega) (fun _ => hpB)) ?_
    refine Ql rfl (Zy Zq (Zb rfl) rfl (fun _ => hcB)) ?_
    refine Zc rfl (fun _ => Zk (Zb rfl)) ?_
    refine Yb rfl (Zt Xu Yi (Zi (Zb rfl) (Zi (Zb rfl) (Zp))) rfl) (hE1 _ _ D k _ hkB (by first | omega | (simp only [Js, Jt, Ju, Jv, Jw, Jy, tabsL, Jz]; omega)) (by omega)) ?_
    rintro v85 w85 ⟨rfl, g85⟩
    refine ⟨fun _ => g85, ?_⟩
    have g := g.trans (g85)
    replace B2 := B2.grow (g85)
    have hk0 := hk0.grow (g85)
    try have hkid := hkid.grow (g85)
    try have hkA := hkA.grow (g85)
    try have hkB := hkB.grow (g85)
    refine Zc rfl (fun _ => Yy (Zb rfl) (Zb rfl) (fun _ => by first | omega | (simp only [Js, Jt, Ju, Jv, Jw, Jy, tabsL, Jz]; omega))) ?_
    refine Zc rfl (fun _ => Ze (Zb rfl)) ?_
    refine Zj [(1, _, _), (2, _, _), (4, _, _)] (Za rfl (Za rfl (Za rfl (Zd _)))) ?_
    refine Zg (hK19 _ _ ?_)
    refine Ye (Yf rfl rfl ?_)
    exact ⟨by first | (rw [e]; done) | (rw [e]; rfl) | rfl, g⟩
  (try simp only [bsimp] at h8)
  refine Zh fun K20 hK20 => ?_
  refine Zf [3, 3] ?_
  refine Zc rfl (fun _ => Yg (Zb rfl) Zr) ?_
  refine Zc rfl (fun _ => Ze (Zb rfl)) ?_
  refine Zj [(1, _, _), (2, _, _), (4, _, _), (6, _, _), (87, _, _)] (Za rfl (Za rfl (Za rfl (Za rfl (Za rfl (Zd _)))))) ?_
  refine Zg (hK20 _ _ ?_)
  refine Ya (Zb rfl) (fun h9 => ?_) (fun h9 => ?_)
  · replace h9 := of_decide_eq_true h9
    obtain ⟨hl, he0⟩ := sh17 h9 hx
    have hE0 := ih.e (i := 0) (by omega) he0 hok
    have hc0 := Yp (t := t) (i := 0) (by omega)
    have hj := Ue (fun y => exT y k) hl
    have e := stT_17 h9 hl k
    rw [hj] at e
    rw [e] at hlen
    simp only [Js, Jt, Ju, Jv, Jw, Jy, tabsL, Jz] at hlen
    refine Zh fun K21 hK21 => ?_
    refine Zf [3, 0, 3, 0, 3, 1, 3, 3, 3] ?_
    refine Zc rfl (fun _ => Zn Zo (Zb rfl)) ?_
    refine Zv rfl (Zs Zm (Zb rfl) (fun _ => B2.at_ rfl)) ?_
    obtain ⟨hpe, p_91, c_91, hcell, hkid⟩ := Xd hk0 (i := 0) (by omega)
    refine Zc rfl (fun _ => Ym Zl (Zb rfl) Zr (fun _ => by omega) (fun _ => hpe)) ?_
    refine Zv rfl (Zy Zq (Zb rfl) rfl (fun _ => hcell)) ?_
    refine Zc rfl (fun _ => Zk (Zb rfl)) ?_
    refine Yb rfl (Zt Xu Yi (Zi (Zb rfl) (Zi (Zb rfl) (Zp))) rfl) (hE0 _ _ D k _ hkid (by first | omega | (simp only [Js, Jt, Ju, Jv, Jw, Jy, tabsL, Jz]; omega)) (by omega)) ?_
    rintro v94 w94 ⟨rfl, g94⟩
    refine ⟨fun _ => g94, ?_⟩
    have g := g.trans (g94)
    replace B2 := B2.grow (g94)
    have hk0 := hk0.grow (g94)
    try have hkid := hkid.grow (g94)
    try have hkA := hkA.grow (g94)
    try have hkB := hkB.grow (g94)
    refine Zc rfl (fun _ => Yy Zr (Zb rfl) (fun _ => by first | omega | (simp only [Js, Jt, Ju, Jv, Jw, Jy, tabsL, Jz]; omega))) ?_
    refine Zc rfl (fun _ => Yy (Zb rfl) Zr (fun _ => by first | omega | (simp only [Js, Jt, Ju, Jv, Jw, Jy, tabsL, Jz]; omega))) ?_
    refine Zc rfl (fun _ => Ze (Zb rfl)) ?_
    refine Zj [(1, _, _), (2, _, _), (4, _, _)] (Za rfl (Za rfl (Za rfl (Zd _)))) ?_
    refine Zg (hK21 _ _ ?_)
    refine Ye (Yf rfl rfl ?_)
    exact ⟨by first | (rw [e]; done) | (rw [e]; rfl) | rfl, g⟩
  (try simp only [bsimp] at h9)
  refine Zh fun K22 hK22 => ?_
  refine Zf [3, 3] ?_
  refine Zc rfl (fun _ => Yg (Zb rfl) Zr) ?_
  refine Zc rfl (fun _ => Ze (Zb rfl)) ?_
  refine Zj [(1, _, _), (2, _, _), (4, _, _), (6, _, _), (97, _, _)] (Za rfl (Za rfl (Za rfl (Za rfl (Za rfl (Zd _)))))) ?_
  refine Zg (hK22 _ _ ?_)
  refine Ya (Zb rfl) (fun h10 => ?_) (fun h10 => ?_)
  · replace h10 := of_decide_eq_true h10
    obtain ⟨hl, he0⟩ := sh21 h10 hx
    have hE0 := ih.e (i := 0) (by omega) he0 hok
    have hc0 := Yp (t := t) (i := 0) (by omega)
    have hj := Ue (fun y => exT y k) hl
    have e := stT_21 h10 hl k
    rw [hj] at e
    rw [e] at hlen
    simp only [Js, Jt, Ju, Jv, Jw, Jy, tabsL, Jz] at hlen
    refine Zh fun K23 hK23 => ?_
    refine Zf [3, 0, 3, 0, 3, 1, 3, 3, 3] ?_
    refine Zc rfl (fun _ => Zn Zo (Zb rfl)) ?_
    refine Zv rfl (Zs Zm (Zb rfl) (fun _ => B2.at_ rfl)) ?_
    obtain ⟨hpe, p_101, c_101, hcell, hkid⟩ := Xd hk0 (i := 0) (by omega)
    refine Zc rfl (fun _ => Ym Zl (Zb rfl) Zr (fun _ => by omega) (fun _ => hpe)) ?_
    refine Zv rfl (Zy Zq (Zb rfl) rfl (fun _ => hcell)) ?_
    refine Zc rfl (fun _ => Zk (Zb rfl)) ?_
    refine Yb rfl (Zt Xu Yi (Zi (Zb rfl) (Zi (Zb rfl) (Zp))) rfl) (hE0 _ _ D k _ hkid (by first | omega | (simp only [Js, Jt, Ju, Jv, Jw, Jy, tabsL, Jz]; omega)) (by omega)) ?_
    rintro v104 w104 ⟨rfl, g104⟩
    refine ⟨fun _ => g104, ?_⟩
    have g := g.trans (g104)
    replace B2 := B2.grow (g104)
    have hk0 := hk0.grow (g104)
    try have hkid := hkid.grow (g104)
    try have hkA := hkA.grow (g104)
    try have hkB := hkB.grow (g104)
    refine Zc rfl (fun _ => Yy Zr (Zb rfl) (fun _ => by first | omega | (simp only [Js, Jt, Ju, Jv, Jw, Jy, tabsL, Jz]; omega))) ?_
    refine Zc rfl (fun _ => Yy (Zb rfl) Zr (fun _ => by first | omega | (simp only [Js, Jt, Ju, Jv, Jw, Jy, tabsL, Jz]; omega))) ?_
    refine Zc rfl (fun _ => Ze (Zb rfl)) ?_
    refine Zj [(1, _, _), (2, _, _), (4, _, _)] (Za rfl (Za rfl (Za rfl (Zd _)))) ?_
    refine Zg (hK23 _ _ ?_)
    refine Ye (Yf rfl rfl ?_)
    exact ⟨by first | (rw [e]; done) | (rw [e]; rfl) | rfl, g⟩
  (try simp only [bsimp] at h10)
  refine Zh fun K24 hK24 => ?_
  refine Zf [3, 3] ?_
  refine Zc rfl (fun _ => Yg (Zb rfl) Zr) ?_
  refine Zc rfl (fun _ => Ze (Zb rfl)) ?_
  refine Zj [(1, _, _), (2, _, _), (4, _, _), (6, _, _), (107, _, _)] (Za rfl (Za rfl (Za rfl (Za rfl (Za rfl (Zd _)))))) ?_
  refine Zg (hK24 _ _ ?_)
  refine Ya (Zb rfl) (fun h11 => ?_) (fun h11 => ?_)
  · replace h11 := of_decide_eq_true h11
    have e : stT t k = stT t k := rfl
    refine Zh fun K25 hK25 => ?_
    refine Zf [0, 3, 1, 3] ?_
    refine Zv rfl (Zy Zq (Zb rfl) rfl (fun _ => B2.row)) ?_
    refine Zc rfl (fun _ => Zk (Zb rfl)) ?_
    refine Yb rfl (Zt go_r03_ifText Yi (Zi (Zb rfl) (Zi (Zb rfl) (Zp))) rfl) (rif_ok ih (sh18s h11 hx) hok _ _ D k _ hk0 hlen hc) ?_
    rintro v111 w111 ⟨rfl, g111⟩
    refine ⟨fun _ => g111, ?_⟩
    have g := g.trans (g111)
    replace B2 := B2.grow (g111)
    have hk0 := hk0.grow (g111)
    try have hkid := hkid.grow (g111)
    try have hkA := hkA.grow (g111)
    try have hkB := hkB.grow (g111)
    refine Zc rfl (fun _ => Ze (Zb rfl)) ?_
    refine Zj [(1, _, _), (2, _, _), (4, _, _)] (Za rfl (Za rfl (Za rfl (Zd _)))) ?_
    refine Zg (hK25 _ _ ?_)
    refine Ye (Yf rfl rfl ?_)
    exact ⟨by first | (rw [e]; done) | (rw [e]; rfl) | rfl, g⟩
  (try simp only [bsimp] at h11)
  refine Zh fun K26 hK26 => ?_
  refine Zf [3, 3] ?_
  refine Zc rfl (fun _ => Yg (Zb rfl) Zr) ?_
  refine Zc rfl (fun _ => Ze (Zb rfl)) ?_
  refine Zj [(1, _, _), (2, _, _), (4, _, _), (6, _, _), (112, _, _)] (Za rfl (Za rfl (Za rfl (Za rfl (Za rfl (Zd _)))))) ?_
  refine Zg (hK26 _ _ ?_)
  refine Ya (Zb rfl) (fun h12 => ?_) (fun h12 => ?_)
  · replace h12 := of_decide_eq_true h12
    have e : stT t k = stT t k := rfl
    refine Zh fun K27 hK27 => ?_
    refine Zf [0, 3, 1, 3] ?_
    refine Zv rfl (Zy Zq (Zb rfl) rfl (fun _ => B2.row)) ?_
    refine Zc rfl (fun _ => Zk (Zb rfl)) ?_
    refine Yb rfl (Zt go_r03_selectText Yi (Zi (Zb rfl) (Zi (Zb rfl) (Zp))) rfl) (hsel h12 _ _ D k _ hk0 hlen hc) ?_
    rintro v116 w116 ⟨rfl, g116⟩
    refine ⟨fun _ => g116, ?_⟩
    have g := g.trans (g116)
    replace B2 := B2.grow (g116)
    have hk0 := hk0.grow (g116)
    try have hkid := hkid.grow (g116)
    try have hkA := hkA.grow (g116)
    try have hkB := hkB.grow (g116)
    refine Zc rfl (fun _ => Ze (Zb rfl)) ?_
    refine Zj [(1, _, _), (2, _, _), (4, _, _)] (Za rfl (Za rfl (Za rfl (Zd _)))) ?_
    refine Zg (hK27 _ _ ?_)
    refine Ye (Yf rfl rfl ?_)
    exact ⟨by first | (rw [e]; done) | (rw [e]; rfl) | rfl, g⟩
  (try simp only [bsimp] at h12)
  refine Zh fun K28 hK28 => ?_
  refine Zf [3, 3] ?_
  refine Zc rfl (fun _ => Yg (Zb rfl) Zr) ?_
  refine Zc rfl (fun _ => Ze (Zb rfl)) ?_
  refine Zj [(1, _, _), (2, _, _), (4, _, _), (117, _, _)] (Za rfl (Za rfl (Za rfl (Za rfl (Zd _))))) ?_
  refine Zg (hK28 _ _ ?_)
  refine Ya (Zb rfl) (fun h13 => ?_) (fun h13 => ?_)
  · replace h13 := of_decide_eq_true h13
    obtain ⟨hl, hes⟩ := sh20 h13 hx
    refine Zh fun K29 hK29 => ?_
    refine Zh fun K30 hK30 => ?_
    refine Zf [3, 0, 3, 3] ?_
    refine Zc rfl (fun _ => Zn Zo (Zb rfl)) ?_
    refine Zv rfl (Zs Zm (Zb rfl) (fun _ => B2.at_ rfl)) ?_
    refine Zc rfl (fun _ => Xr Zl (Zb rfl)) ?_
    refine Zc rfl (fun _ => Yg (Zb rfl) Zr) ?_
    refine Zj [(1, _, _), (2, _, _), (4, _, _), (122, _, _)] (Za rfl (Za rfl (Za rfl (Za rfl (Zd _))))) ?_
    refine Zg (hK30 _ _ ?_)
    refine Ya (Zb rfl) (fun h14 => ?_) (fun h14 => ?_)
    · replace h14 : t.kids.length = 0 := by simp only [decide_eq_true_eq] at h14; omega
      have e := stT_20n h13 h14 k
      refine Zh fun K31 hK31 => ?_
      refine Zf [3] ?_
      refine Zc rfl (fun _ => Ze Zr) ?_
      refine Zj [(1, _, _), (2, _, _), (4, _, _)] (Za rfl (Za rfl (Za rfl (Zd _)))) ?_
      refine Zg (hK31 _ _ ?_)
      refine Ye (Yf rfl rfl ?_)
      exact ⟨by first | (rw [e]; done) | (rw [e]; rfl) | rfl, g⟩
    replace h14 : t.kids.length = 1 := by simp only [decide_eq_false_iff_not] at h14; omega
    have hj := Ue (fun y => exT y k) h14
    have e := stT_20 h13 h14 k
    rw [hj] at e
    rw [e] at hlen
    have hE0 := ih.e (i := 0) (by omega) (Us hes (by omega)) hok
    have hc0 := Yp (t := t) (i := 0) (by omega)
    simp only [Js, Jt, Ju, Jv, Jw, Jy, tabsL, Jz] at hlen
    refine Yt (hK29 _ _ ?_)
    refine Yn [(1, _, _), (2, _, _), (4, _, _)] (Za rfl (Za rfl (Za rfl (Zd _)))) ?_
    refine Zh fun K32 hK32 => ?_
    refine Zf [3, 0, 3, 0, 3, 1, 3, 3] ?_
    refine Zc rfl (fun _ => Zn Zo (Zb rfl)) ?_
    refine Zv rfl (Zs Zm (Zb rfl) (fun _ => B2.at_ rfl)) ?_
    obtain ⟨hpe, p_125, c_125, hcell, hkid⟩ := Xd hk0 (i := 0) (by omega)
    refine Zc rfl (fun _ => Ym Zl (Zb rfl) Zr (fun _ => by omega) (fun _ => hpe)) ?_
    refine Zv rfl (Zy Zq (Zb rfl) rfl (fun _ => hcell)) ?_
    refine Zc rfl (fun _ => Zk (Zb rfl)) ?_
    refine Yb rfl (Zt Xu Yi (Zi (Zb rfl) (Zi (Zb rfl) (Zp))) rfl) (hE0 _ _ D k _ hkid (by first | omega | (simp only [Js, Jt, Ju, Jv, Jw, Jy, tabsL, Jz]; omega)) (by omega)) ?_
    rintro v128 w128 ⟨rfl, g128⟩
    refine ⟨fun _ => g128, ?_⟩
    have g := g.trans (g128)
    replace B2 := B2.grow (g128)
    have hk0 := hk0.grow (g128)
    try have hkid := hkid.grow (g128)
    try have hkA := hkA.grow (g128)
    try have hkB := hkB.grow (g128)
    refine Zc rfl (fun _ => Yy Zr (Zb rfl) (fun _ => by first | omega | (simp only [Js, Jt, Ju, Jv, Jw, Jy, tabsL, Jz]; omega))) ?_
    refine Zc rfl (fun _ => Ze (Zb rfl)) ?_
    refine Zj [(1, _, _), (2, _, _), (4, _, _)] (Za rfl (Za rfl (Za rfl (Zd _)))) ?_
    refine Zg (hK32 _ _ ?_)
    refine Ye (Yf rfl rfl ?_)
    exact ⟨by first | (rw [e]; done) | (rw [e]; rfl) | rfl, g⟩
  have h19 : t.kind = 19 := by have hks := st_kinds' hx; simp only [bsimp, decide_eq_false_iff_not] at h1 h2 h3 h4 h5 h6 h7 h8 h9 h10 h11 h12 h13; omega
  obtain ⟨hl, he0, hb1⟩ := sh19 h19 hx
  have hB1 := ih.b (i := 1) (by omega) hb1 hok
  have hc0 := Yp (t := t) (i := 0) (by omega)
  have hc1 := Yp (t := t) (i := 1) (by omega)
  have e := stT_19 h19 hl k
  refine Yt (hK2 _ _ ?_)
  refine Yn [(1, _, _), (2, _, _), (4, _, _)] (Za rfl (Za rfl (Za rfl (Zd _)))) ?_
  refine Zh fun K33 hK33 => ?_
  refine Zh fun K34 hK34 => ?_
  refine Zf [3, 0, 3, 3, 0, 3] ?_
  refine Zc rfl (fun _ => Zn Zo (Zb rfl)) ?_
  refine Zv rfl (Zs Zm (Zb rfl) (fun _ => B2.at_ rfl)) ?_
  obtain ⟨hpe, p_132, c_132, hcell, hkid⟩ := Xd hk0 (i := 0) (by omega)
  refine Zc rfl (fun _ => Ym Zl (Zb rfl) Zr (fun _ => by omega) (fun _ => hpe)) ?_
  refine Zc rfl (fun _ => Zn Yj (Zb rfl)) ?_
  refine Zv rfl (Zs Yv (Zb rfl) (fun _ => hcell 0 _ rfl)) ?_
  refine Zc rfl (fun _ => Yg (Zb rfl) Zr) ?_
  refine Zg (hK34 _ _ ?_)
  refine Ya (Zb rfl) (fun h15 => ?_) (fun h15 => ?_)
  · rw [h15, cond_true] at e
    rw [e] at hlen
    simp only [Js, Jt, Ju, Jv, Jw, Jy, tabsL, Jz] at hlen
    refine Zh fun K35 hK35 => ?_
    refine Zf [3, 0, 3, 0, 3, 1, 3, 3] ?_
    refine Zc rfl (fun _ => Zn Zo (Zb rfl)) ?_
    refine Zv rfl (Zs Zm (Zb rfl) (fun _ => B2.at_ rfl)) ?_
    obtain ⟨hpe, p_138, c_138, hcell, hkid⟩ := Xd hk0 (i := 1) (by omega)
    refine Zc rfl (fun _ => Ym Zl (Zb rfl) Zr (fun _ => by omega) (fun _ => hpe)) ?_
    refine Zv rfl (Zy Zq (Zb rfl) rfl (fun _ => hcell)) ?_
    refine Zc rfl (fun _ => Zk (Zb rfl)) ?_
    refine Yb rfl (Zt Ug Yi (Zi (Zb rfl) (Zi (Zb rfl) (Zp))) rfl) (hB1 _ _ D k _ hkid (by first | omega | (simp only [Js, Jt, Ju, Jv, Jw, Jy, tabsL, Jz]; omega)) (by omega)) ?_
    rintro v141 w141 ⟨rfl, g141⟩
    refine ⟨fun _ => g141, ?_⟩
    have g := g.trans (g141)
    replace B2 := B2.grow (g141)
    have hk0 := hk0.grow (g141)
    try have hkid := hkid.grow (g141)
    try have hkA := hkA.grow (g141)
    try have hkB := hkB.grow (g141)
    refine Zc rfl (fun _ => Yy Zr (Zb rfl) (fun _ => by first | omega | (simp only [Js, Jt, Ju, Jv, Jw, Jy, tabsL, Jz]; omega))) ?_
    refine Zc rfl (fun _ => Ze (Zb rfl)) ?_
    refine Zg (hK35 _ _ ?_)
    refine Ye (Yf rfl rfl ?_)
    exact ⟨by first | (rw [e]; done) | (rw [e]; rfl) | rfl, g⟩
  rw [h15, cond_false] at e
  rw [e] at hlen
  simp only [Js, Jt, Ju, Jv, Jw, Jy, tabsL, Jz] at hlen
  have hE0 := ih.e (i := 0) (by omega) (he0.resolve_left fun h => absurd (Qw h).1 (of_decide_eq_false h15)) hok
  refine Yt (hK33 _ _ ?_)
  refine Zh fun K36 hK36 => ?_
  skip
  refine Xx [3, 0, 3, 0, 3, 1, 3, 3, 3, 0, 3, 0, 3, 1, 3, 3] [true, true, true, true, true, true, true, true, false, false, false, false, false, true, true, true] [0, 1, 3, 7, 0, 31, 63, 127, 0, 256, 768, 1792, 0, 7999, 16383, 32767] mix (by kernel_rfl) ?_
  have g := g.trans (G.drew _)
  replace B2 := B2.grow (G.drew _)
  have hk0 := hk0.grow (G.drew _)
  try have hkid := hkid.grow (G.drew _)
  try have hkA := hkA.grow (G.drew _)
  try have hkB := hkB.grow (G.drew _)
  have C2 := B2
  obtain ⟨hpA, pA, cA, hcA, hkA⟩ := Xd hk0 (i := 0) (by omega)
  obtain ⟨hpB, pB, cB, hcB, hkB⟩ := Xd hk0 (i := 1) (by omega)
  refine Zc rfl (fun _ => Zn Zo (Zb rfl)) ?_
  refine Zv rfl (Zs Zm (Zb rfl) (fun _ => B2.at_ rfl)) ?_
  refine Zc rfl (fun _ => Ym Zl (Zb rfl) Zr (fun _ => by omega) (fun _ => hpA)) ?_
  refine Zv rfl (Zy Zq (Zb rfl) rfl (fun _ => hcA)) ?_
  refine Zc rfl (fun _ => Zk (Zb rfl)) ?_
  refine Yb rfl (Zt Xu Yi (Zi (Zb rfl) (Zi (Zb rfl) (Zp))) rfl) (hE0 _ _ D k _ hkA (by first | omega | (simp only [Js, Jt, Ju, Jv, Jw, Jy, tabsL, Jz]; omega)) (by omega)) ?_
  rintro v148 w148 ⟨rfl, g148⟩
  refine ⟨fun _ => g148, ?_⟩
  have g := g.trans (g148)
  replace B2 := B2.grow (g148)
  have hk0 := hk0.grow (g148)
  try have hkid := hkid.grow (g148)
  try have hkA := hkA.grow (g148)
  try have hkB := hkB.grow (g148)
  refine Zc rfl (fun _ => Yy Zr (Zb rfl) (fun _ => by first | omega | (simp only [Js, Jt, Ju, Jv, Jw, Jy, tabsL, Jz]; omega))) ?_
  refine Zc rfl (fun _ => Yy (Zb rfl) Zr (fun _ => by first | omega | (simp only [Js, Jt, Ju, Jv, Jw, Jy, tabsL, Jz]; omega))) ?_
  refine Zc rfl (fun _ => Zn Zo (Zb rfl)) ?_
  refine Ql rfl (Zs Zm (Zb rfl) (fun _ => C2.at_ rfl)) ?_
  refine Zc rfl (fun _ => Ym Zl (Zb rfl) Zr (fun _ => by omega) (fun _ => hpB)) ?_
  refine Ql rfl (Zy Zq (Zb rfl) rfl (fun _ => hcB)) ?_
  refine Zc rfl (fun _ => Zk (Zb rfl)) ?_
  refine Yb rfl (Zt Ug Yi (Zi (Zb rfl) (Zi (Zb rfl) (Zp))) rfl) (hB1 _ _ D k _ hkB (by first | omega | (simp only [Js, Jt, Ju, Jv, Jw, Jy, tabsL, Jz]; omega)) (by omega)) ?_
  rintro v156 w156 ⟨rfl, g156⟩
  refine ⟨fun _ => g156, ?_⟩
  have g := g.trans (g156)
  replace B2 := B2.grow (g156)
  have hk0 := hk0.grow (g156)
  try have hkid := hkid.grow (g156)
  try have hkA := hkA.grow (g156)
  try have hkB := hkB.grow (g156)
  refine Zc rfl (fun _ => Yy (Zb rfl) (Zb rfl) (fun _ => by first | omega | (simp only [Js, Jt, Ju, Jv, Jw, Jy, tabsL, Jz]; omega))) ?_
  refine Zc rfl (fun _ => Ze (Zb rfl)) ?_
  refine Zg (hK36 _ _ ?_)
  refine Ye (Yf rfl rfl ?_)
  exact ⟨by first | (rw [e]; done) | (rw [e]; rfl) | rfl, g⟩
end Go.Rk
namespace Go.Rk
open Go Go.RowKit
set_option linter.unusedVariables false
theorem cs_eq {c : Nd} (h : c.kids.length = 2) (k : Nat) : (txT c).cs k = (bif decide ((kidAt c 0).kind = 9) then tabsL k ++ [100, 101, 102, 97, 117, 108, 116, 58, 10] else ((tabsL k ++ [99, 97, 115, 101, 32]) ++ stT (kidAt c 0) k) ++ [58, 10]) ++ lnT (kidAt c 1).kids (k + 1) := by
  rw [Wq]; show csX c (fun i => (c.kids.map txT).getD i tx0) k = _
  rw [csX, x_st (i := 0) (by omega), x_ls (i := 1) (by omega), ls_eq']; rfl
def csL (l : List Nd) (k : Nat) : List UInt8 := l.flatMap fun y => (txT y).cs k
theorem csL_snoc (l : List Nd) (k : Nat) {i : Nat} (h : i < l.length) : csL (l.take (i + 1)) k = csL (l.take i) k ++ (txT l[i]).cs k := by
  rw [csL, Vo h, List.flatMap_append, csL]; simp
theorem csL_le (l : List Nd) (k i : Nat) : (csL (l.take i) k).length ≤ (csL l k).length := by
  conv => rhs; rw [csL, ← List.take_append_drop i l, List.flatMap_append, List.length_append]
  exact Nat.le_add_right _ _
theorem stT_22s {t : Nd} (h : t.kind = 22) (k : Nat) : stT t k = (([115, 101, 108, 101, 99, 116, 32, 123, 10] ++ csL t.kids k) ++ tabsL k) ++ [125] := by
  unfold stT; rw [Wq]; show stX t (fun i => (t.kids.map txT).getD i tx0) (t.kids.map txT) k = _
  unfold stX; rw [h]
  show (([115, 101, 108, 101, 99, 116, 32, 123, 10] ++ (t.kids.map txT).flatMap fun y => y.cs k) ++ tabsL k) ++ [125] = _
  rw [List.flatMap_map]; rfl
set_option maxHeartbeats 2000000 in
theorem rselect_ok {t : Nd} (ih : RPel t) (hx : stmtB t = true) (hok : okNd t) (h22 : t.kind = 22) : RTx fn_r03_selectText stT t := by
  intro p c D k w hk0 hlen hc
  have g := G.refl w
  have hcn : count t = 1 + (t.kids.map count).sum := Wt t
  have hln := Vs t
  have hcs := List.all_eq_true.1 (sh22 h22 hx)
  have e := stT_22s h22 k
  rw [e] at hlen
  simp only [Js, Jt, Ju, Jv, Jw, Jy, tabsL, Jz] at hlen
  obtain ⟨_, _, hpe, _, hks⟩ := id hk0
  injection hpe with hpe _ hce
  subst hpe hce
  refine Yl (m := 59) func_r03_selectText rfl rfl [(0, True, _), (1, True, _)] (Za rfl (Za rfl (Zd _))) ?_
  refine Zh fun K1 hK1 => ?_
  refine Zf [1, 3] ?_
  refine Xt rfl (Zb rfl) rfl ?_
  intro b2 w2 N2
  have l2 := N2.ge g
  have g := g.trans (N2.g)
  have B2 := N2.blk
  refine Zc rfl (fun _ => Ze Zr) ?_
  refine Zj [(1, _, _), (2, _, _), (4, _, _)] (Za rfl (Za rfl (Za rfl (Zd _)))) ?_
  refine Zg (hK1 _ _ ?_)
  refine Zh fun K2 hK2 => ?_
  refine Zf [3] ?_
  refine Zc rfl (fun _ => Ze Zr) ?_
  refine Zg (hK2 _ _ ?_)
  refine Zh fun K3 hK3 => ?_
  refine Zh fun K4 hK4 => ?_
  refine Zf [3] ?_
  refine Zc rfl (fun _ => Ze Zr) ?_
  refine Zg (hK4 _ _ ?_)
  refine Yr ?_
  refine Wa (fun (i : Nat) u1 => (i ≤ t.kids.length) ∧ G w2 u1) [(1, True, _), (2, True, _), (4, True, _)] (fun (i : Nat) => [(5, True, Str ([115, 101, 108, 101, 99, 116, 32, 123, 10] ++ csL (t.kids.take i) k)), (6, True, .int .i64 i)]) (fun (i : Nat) => t.kids.length - i) (0) ⟨Nat.zero_le _, G.refl _⟩ (Za rfl (Za rfl (Za rfl (Za rfl (Za rfl (Zd _)))))) ?_
  rintro i u1 ⟨hI1, gl1⟩
  have g := g.trans gl1
  replace B2 := B2.grow (gl1)
  refine Zh fun K5 hK5 => ?_
  refine Zh fun K6 hK6 => ?_
  refine Zf [3, 3, 0, 3, 3] ?_
  refine Zc rfl (fun _ => Zk (Zb rfl)) ?_
  refine Zc rfl (fun _ => Zn Zo (Zb rfl)) ?_
  refine Zv rfl (Zs Zm (Zb rfl) (fun _ => B2.at_ rfl)) ?_
  refine Zc rfl (fun _ => Xr Zl (Zb rfl)) ?_
  refine Zc rfl (fun _ => Va (Zb rfl) (Zb rfl)) ?_
  refine Zj [(1, _, _), (2, _, _), (4, _, _), (5, _, _), (6, _, _), (12, _, _)] (Za rfl (Za rfl (Za rfl (Za rfl (Za rfl (Za rfl (Zd _))))))) ?_
  refine Zg (hK6 _ _ ?_)
  refine Ya (Zb rfl) (fun h1 => ?_) (fun h1 => ?_)
  · replace h1 : i < t.kids.length := by simp only [decide_eq_true_eq] at h1; omega
    obtain ⟨b9, o9, rfl, hD9, xs, hR, hX⟩ := hks (by omega)
    obtain ⟨p9, c9, hcell9, hkid9⟩ := Qv hR hX h1
    obtain ⟨_, hl2, hcm, hb1⟩ := sh23 (hcs _ (List.getElem_mem h1))
    obtain ⟨hpA, pA, cA, hcA, hkA⟩ := Xd hkid9 (i := 0) (by omega)
    obtain ⟨hpB, pB, cB, hcB, hkB⟩ := Xd hkid9 (i := 1) (by omega)
    have hjs := csL_snoc t.kids k h1
    have hjl := csL_le t.kids k (i + 1)
    rw [hjs, cs_eq hl2] at hjl
    rw [cs_eq hl2] at hjs
    have hci := sum_le t.kids h1
    have hq0 := Yp (t := t.kids[i]) (i := 0) (by omega)
    have hq1 := Yp (t := t.kids[i]) (i := 1) (by omega)
    have hq2 : count (kidAt t.kids[i] 1) = 1 + ((kidAt t.kids[i] 1).kids.map count).sum := Wt _
    have hkt := Wk (List.getElem_mem h1)
    have hss := List.all_eq_true.1 (sh10 hb1)
    have hoc := Ua hok (List.getElem_mem h1)
    have hst : ∀ x ∈ (kidAt t.kids[i] 1).kids, RTx Jd stT x := fun x hm => (ih x (Nat.lt_trans (Wk hm) (Nat.lt_trans hq1 hkt))).st (hss x hm) (Ua (okNd_kidAt' hoc (by omega)) hm)
    refine Yt (hK5 _ _ ?_)
    refine Yn [(1, _, _), (2, _, _), (4, _, _), (5, _, _), (6, _, _)] (Za rfl (Za rfl (Za rfl (Za rfl (Za rfl (Zd _)))))) ?_
    refine Zh fun K7 hK7 => ?_
    refine Yr ?_
    refine Zh fun K8 hK8 => ?_
    refine Zf [3, 0, 3, 3, 0, 1, 2] ?_
    refine Zc rfl (fun _ => Zn Zo (Zb rfl)) ?_
    refine Zv rfl (Zs Zm (Zb rfl) (fun _ => B2.at_ rfl)) ?_
    refine Zc rfl (fun _ => Zk (Zb rfl)) ?_
    refine Zc rfl (fun _ => Vb Zl (Zb rfl) (Zb rfl) (fun _ => by first | omega | (simp only [Js, Jt, Ju, Jv, Jw, Jy, tabsL, Jz]; omega))) ?_
    refine Zv rfl (Zy Zq (Zb rfl) rfl (fun _ => hcell9.grow g)) ?_
    refine Xo rfl Yo rfl ?_
    intro b7 w7 N7
    have x7_2 := N7.ne B2
    have l7 := N7.ge g
    try have l7_gl1 := N7.ge gl1
    have g := g.trans (N7.g)
    try have gl1 := gl1.trans (N7.g)
    replace B2 := B2.grow (N7.g)
    have B7 := N7.blk
    refine Xc rfl Xg (Zb rfl) (Zb rfl) rfl rfl B7 rfl rfl ?_
    intro wS1 hgS1 hzS1
    clear B7
    intro B7
    replace B2 := B2.keep hgS1 (by intro h; injection h with h; first | exact x7_2 h.symm | exact x2_7 h | omega)
    have g := Xq g hgS1 (by intro k hk; injection hk with hk; omega)
    first | replace gl1 := Xq gl1 hgS1 (by intro k hk; injection hk with hk; omega) | clear gl1 | skip
    refine Zj [(1, _, _), (2, _, _), (4, _, _), (5, _, _), (6, _, _), (7, _, _)] (Za rfl (Za rfl (Za rfl (Za rfl (Za rfl (Za rfl (Zd _))))))) ?_
    refine Zg (hK8 _ _ ?_)
    refine Zh fun K9 hK9 => ?_
    refine Zh fun K10 hK10 => ?_
    refine Zf [3, 0, 3, 3, 0, 3] ?_
    refine Zc rfl (fun _ => Zn Zo (Zb rfl)) ?_
    refine Zv rfl (Zs Zm (Zb rfl) (fun _ => B7.at_ rfl)) ?_
    refine Zc rfl (fun _ => Ym Zl (Zb rfl) Zr (fun _ => by omega) (fun _ => hpA)) ?_
    refine Zc rfl (fun _ => Zn Yj (Zb rfl)) ?_
    refine Zv rfl (Zs Yv (Zb rfl) (fun _ => (hcA.grow g) 0 _ rfl)) ?_
    refine Zc rfl (fun _ => Yg (Zb rfl) Zr) ?_
    refine Zj [(1, _, _), (2, _, _), (4, _, _), (5, _, _), (6, _, _), (7, _, _), (25, _, _)] (Za rfl (Za rfl (Za rfl (Za rfl (Za rfl (Za rfl (Za rfl (Zd _)))))))) ?_
    refine Zg (hK10 _ _ ?_)
    refine Ya (Zb rfl) (fun h2 => ?_) (fun h2 => ?_)
    · rw [h2, cond_true] at hjs hjl
      simp only [Js, Jt, Ju, Jv, Jw, Jy, tabsL, Jz] at hjl
      refine Zf [3, 3, 1, 3, 3, 3] ?_
      refine Zc rfl (fun _ => Zk (Zb rfl)) ?_
      refine Zc rfl (fun _ => Zk (Zb rfl)) ?_
      refine Yb rfl (Zt go_r03_tabs Yi (Zi (Zb rfl) (Zp)) rfl) (rtabs_ok k _ (by omega)) ?_
      rintro v28 w28 ⟨rfl, g28⟩
      refine ⟨fun _ => g28, ?_⟩
      have g := g.trans (g28)
      try have gl1 := gl1.trans (g28)
      replace B2 := B2.grow (g28)
      replace B7 := B7.grow (g28)
      refine Zc rfl (fun _ => Yy (Zb rfl) Zr (fun _ => by first | omega | (simp only [Js, Jt, Ju, Jv, Jw, Jy, tabsL, Jz]; omega))) ?_
      refine Zc rfl (fun _ => Yy (Zb rfl) (Zb rfl) (fun _ => by first | omega | (simp only [Js, Jt, Ju, Jv, Jw, Jy, tabsL, Jz]; omega))) ?_
      refine Zc rfl (fun _ => Ze (Zb rfl)) ?_
      refine Zj [(1, _, _), (2, _, _), (4, _, _), (5, _, _), (6, _, _), (7, _, _)] (Za rfl (Za rfl (Za rfl (Za rfl (Za rfl (Za rfl (Zd _))))))) ?_
      refine Zg (hK9 _ _ ?_)
      refine Zf [3, 3, 0, 3, 3, 0, 3, 3, 1, 3, 3] ?_
      refine Zc rfl (fun _ => Zk (Zb rfl)) ?_
      refine Zc rfl (fun _ => Zn Zo (Zb rfl)) ?_
      refine Zv rfl (Zs Zm (Zb rfl) (fun _ => B7.at_ rfl)) ?_
      refine Zc rfl (fun _ => Ym Zl (Zb rfl) Zr (fun _ => by omega) (fun _ => hpB)) ?_
      refine Zc rfl (fun _ => Zn Zo (Zb rfl)) ?_
      refine Zv rfl (Zs Zm (Zb rfl) (fun _ => (hcB.grow g) 4 _ rfl)) ?_
      refine Zc rfl (fun _ => Zk (Zb rfl)) ?_
      refine Zc rfl (fun _ => Xm (Zb rfl) Zr (fun _ => by first | omega | (simp only [Js, Jt, Ju, Jv, Jw, Jy, tabsL, Jz]; omega))) ?_
      refine Yb rfl (Zt go_r03_lines Yi (Zi (Zb rfl) (Zi (Zb rfl) (Zp))) rfl) (rlines_ok (k := k + 1) hst (hkB.grow g) (by first | omega | (simp only [Js, Jt, Ju, Jv, Jw, Jy, tabsL, Jz]; omega)) (by omega)) ?_
      rintro v52 w52 ⟨rfl, g52⟩
      refine ⟨fun _ => g52, ?_⟩
      have g := g.trans (g52)
      try have gl1 := gl1.trans (g52)
      replace B2 := B2.grow (g52)
      replace B7 := B7.grow (g52)
      refine Zc rfl (fun _ => Yy (Zb rfl) (Zb rfl) (fun _ => by first | omega | (simp only [Js, Jt, Ju, Jv, Jw, Jy, tabsL, Jz]; omega))) ?_
      refine Zc rfl (fun _ => Ze (Zb rfl)) ?_
      refine Zj [(1, _, _), (2, _, _), (4, _, _), (5, _, _), (6, _, _)] (Za rfl (Za rfl (Za rfl (Za rfl (Za rfl (Zd _)))))) ?_
      refine Zg (hK7 _ _ ?_)
      refine Zf [3, 3, 3] ?_
      refine Zc rfl (fun _ => Zk (Zb rfl)) ?_
      refine Zc rfl (fun _ => Xm (Zb rfl) Zr (fun _ => by first | omega | (simp only [Js, Jt, Ju, Jv, Jw, Jy, tabsL, Jz]; omega))) ?_
      refine Zc rfl (fun _ => Ze (Zb rfl)) ?_
      refine Zj [(5, _, _), (6, _, _), (1, _, _), (2, _, _), (4, _, _)] (Za rfl (Za rfl (Za rfl (Za rfl (Za rfl (Zd _)))))) ?_
      refine Zg (fun a ha => ?_)
      first
        | rw [show (([115, 101, 108, 101, 99, 116, 32, 123, 10] ++ csL (t.kids.take i) k) ++ (tabsL k ++ [100, 101, 102, 97, 117, 108, 116, 58, 10])) ++ lnT (kidAt t.kids[i] 1).kids (k + 1) = [115, 101, 108, 101, 99, 116, 32, 123, 10] ++ csL (t.kids.take (i + 1)) k by rw [hjs]; simp only [List.append_assoc]] at ha
        | rw [show (([115, 101, 108, 101, 99, 116, 32, 123, 10] ++ csL (t.kids.take i) k) ++ (((tabsL k ++ [99, 97, 115, 101, 32]) ++ stT (kidAt t.kids[i] 0) k) ++ [58, 10])) ++ lnT (kidAt t.kids[i] 1).kids (k + 1) = [115, 101, 108, 101, 99, 116, 32, 123, 10] ++ csL (t.kids.take (i + 1)) k by rw [hjs]; simp only [List.append_assoc]] at ha
      exact ⟨i + 1, ha, ⟨h1, gl1⟩, by omega⟩
    rw [h2, cond_false] at hjs hjl
    simp only [Js, Jt, Ju, Jv, Jw, Jy, tabsL, Jz] at hjl
    have hS0 := (ih _ (Nat.lt_trans hq0 hkt)).st ((comm_none hcm).resolve_left (of_decide_eq_false h2)) (okNd_kidAt' hoc (by omega))
    skip
    refine Xx [3, 3, 1, 3, 3, 0, 3, 0, 3, 1, 3, 3, 3, 3] [true, true, true, true, false, false, false, false, false, true, true, true, true, true] [0, 0, 2, 6, 0, 16, 48, 112, 0, 502, 1022, 2046, 4095, 8191] mix (by kernel_rfl) ?_
    have g := g.trans (G.drew _)
    try have gl1 := gl1.trans (G.drew _)
    replace B2 := B2.grow (G.drew _)
    replace B7 := B7.grow (G.drew _)
    have C2 := B2
    have C7 := B7
    have hcS := hcA.grow g
    refine Zc rfl (fun _ => Zk (Zb rfl)) ?_
    refine Zc rfl (fun _ => Zk (Zb rfl)) ?_
    refine Yb rfl (Zt go_r03_tabs Yi (Zi (Zb rfl) (Zp)) rfl) (rtabs_ok k _ (by omega)) ?_
    rintro v33 w33 ⟨rfl, g33⟩
    refine ⟨fun _ => g33, ?_⟩
    have g := g.trans (g33)
    try have gl1 := gl1.trans (g33)
    replace B2 := B2.grow (g33)
    replace B7 := B7.grow (g33)
    refine Zc rfl (fun _ => Yy (Zb rfl) Zr (fun _ => by first | omega | (simp only [Js, Jt, Ju, Jv, Jw, Jy, tabsL, Jz]; omega))) ?_
    refine Zc rfl (fun _ => Zn Zo (Zb rfl)) ?_
    refine Ql rfl (Zs Zm (Zb rfl) (fun _ => C7.at_ rfl)) ?_
    refine Zc rfl (fun _ => Ym Zl (Zb rfl) Zr (fun _ => by omega) (fun _ => hpA)) ?_
    refine Ql rfl (Zy Zq (Zb rfl) rfl (fun _ => hcS)) ?_
    refine Zc rfl (fun _ => Zk (Zb rfl)) ?_
    refine Yb rfl (Zt go_r03_stmt Yi (Zi (Zb rfl) (Zi (Zb rfl) (Zp))) rfl) (hS0 _ _ D k _ (hkA.grow g) (by first | omega | (simp only [Js, Jt, Ju, Jv, Jw, Jy, tabsL, Jz]; omega)) (by omega)) ?_
    rintro v40 w40 ⟨rfl, g40⟩
    refine ⟨fun _ => g40, ?_⟩
    have g := g.trans (g40)
    try have gl1 := gl1.trans (g40)
    replace B2 := B2.grow (g40)
    replace B7 := B7.grow (g40)
    refine Zc rfl (fun _ => Yy (Zb rfl) (Zb rfl) (fun _ => by first | omega | (simp only [Js, Jt, Ju, Jv, Jw, Jy, tabsL, Jz]; omega))) ?_
    refine Zc rfl (fun _ => Yy (Zb rfl) Zr (fun _ => by first | omega | (simp only [Js, Jt, Ju, Jv, Jw, Jy, tabsL, Jz]; omega))) ?_
    refine Zc rfl (fun _ => Yy (Zb rfl) (Zb rfl) (fun _ => by first | omega | (simp only [Js, Jt, Ju, Jv, Jw, Jy, tabsL, Jz]; omega))) ?_
    refine Zc rfl (fun _ => Ze (Zb rfl)) ?_
    refine Zj [(1, _, _), (2, _, _), (4, _, _), (5, _, _), (6, _, _), (7, _, _)] (Za rfl (Za rfl (Za rfl (Za rfl (Za rfl (Za rfl (Zd _))))))) ?_
    refine Zg (hK9 _ _ ?_)
    refine Zf [3, 3, 0, 3, 3, 0, 3, 3, 1, 3, 3] ?_
    refine Zc rfl (fun _ => Zk (Zb rfl)) ?_
    refine Zc rfl (fun _ => Zn Zo (Zb rfl)) ?_
    refine Zv rfl (Zs Zm (Zb rfl) (fun _ => B7.at_ rfl)) ?_
    refine Zc rfl (fun _ => Ym Zl (Zb rfl) Zr (fun _ => by omega) (fun _ => hpB)) ?_
    refine Zc rfl (fun _ => Zn Zo (Zb rfl)) ?_
    refine Zv rfl (Zs Zm (Zb rfl) (fun _ => (hcB.grow g) 4 _ rfl)) ?_
    refine Zc rfl (fun _ => Zk (Zb rfl)) ?_
    refine Zc rfl (fun _ => Xm (Zb rfl) Zr (fun _ => by first | omega | (simp only [Js, Jt, Ju, Jv, Jw, Jy, tabsL, Jz]; omega))) ?_
    refine Yb rfl (Zt go_r03_lines Yi (Zi (Zb rfl) (Zi (Zb rfl) (Zp))) rfl) (rlines_ok (k := k + 1) hst (hkB.grow g) (by first | omega | (simp only [Js, Jt, Ju, Jv, Jw, Jy, tabsL, Jz]; omega)) (by omega)) ?_
    rintro v52 w52 ⟨rfl, g52⟩
    refine ⟨fun _ => g52, ?_⟩
    have g := g.trans (g52)
    try have gl1 := gl1.trans (g52)
    replace B2 := B2.grow (g52)
    replace B7 := B7.grow (g52)
    refine Zc rfl (fun _ => Yy (Zb rfl) (Zb rfl) (fun _ => by first | omega | (simp only [Js, Jt, Ju, Jv, Jw, Jy, tabsL, Jz]; omega))) ?_
    refine Zc rfl (fun _ => Ze (Zb rfl)) ?_
    refine Zj [(1, _, _), (2, _, _), (4, _, _), (5, _, _), (6, _, _)] (Za rfl (Za rfl (Za rfl (Za rfl (Za rfl (Zd _)))))) ?_
    refine Zg (hK7 _ _ ?_)
    refine Zf [3, 3, 3] ?_
    refine Zc rfl (fun _ => Zk (Zb rfl)) ?_
    refine Zc rfl (fun _ => Xm (Zb rfl) Zr (fun _ => by first | omega | (simp only [Js, Jt, Ju, Jv, Jw, Jy, tabsL, Jz]; omega))) ?_
    refine Zc rfl (fun _ => Ze (Zb rfl)) ?_
    refine Zj [(5, _, _), (6, _, _), (1, _, _), (2, _, _), (4, _, _)] (Za rfl (Za rfl (Za rfl (Za rfl (Za rfl (Zd _)))))) ?_
    refine Zg (fun a ha => ?_)
    first
      | rw [show (([115, 101, 108, 101, 99, 116, 32, 123, 10] ++ csL (t.kids.take i) k) ++ (tabsL k ++ [100, 101, 102, 97, 117, 108, 116, 58, 10])) ++ lnT (kidAt t.kids[i] 1).kids (k + 1) = [115, 101, 108, 101, 99, 116, 32, 123, 10] ++ csL (t.kids.take (i + 1)) k by rw [hjs]; simp only [List.append_assoc]] at ha
      | rw [show (([115, 101, 108, 101, 99, 116, 32, 123, 10] ++ csL (t.kids.take i) k) ++ (((tabsL k ++ [99, 97, 115, 101, 32]) ++ stT (kidAt t.kids[i] 0) k) ++ [58, 10])) ++ lnT (kidAt t.kids[i] 1).kids (k + 1) = [115, 101, 108, 101, 99, 116, 32, 123, 10] ++ csL (t.kids.take (i + 1)) k by rw [hjs]; simp only [List.append_assoc]] at ha
    exact ⟨i + 1, ha, ⟨h1, gl1⟩, by omega⟩
  replace h1 : i = t.kids.length := by simp only [decide_eq_false_iff_not] at h1; omega
  have hjl := csL_le t.kids k i
  rw [← List.take_length (l := t.kids), ← h1] at e
  refine Xz rfl (hK3 _ _ ?_)
  refine Yn [(1, _, _), (4, _, _), (5, _, _)] (Za rfl (Za rfl (Za rfl (Zd _)))) ?_
  refine Zh fun K11 hK11 => ?_
  refine Zf [3, 3, 1, 3, 3, 3] ?_
  refine Zc rfl (fun _ => Zk (Zb rfl)) ?_
  refine Zc rfl (fun _ => Zk (Zb rfl)) ?_
  refine Yb rfl (Zt go_r03_tabs Yi (Zi (Zb rfl) (Zp)) rfl) (rtabs_ok k _ (by omega)) ?_
  rintro v56 w56 ⟨rfl, g56⟩
  refine ⟨fun _ => g56, ?_⟩
  have g := g.trans (g56)
  try have gl1 := gl1.trans (g56)
  replace B2 := B2.grow (g56)
  refine Zc rfl (fun _ => Yy (Zb rfl) (Zb rfl) (fun _ => by first | omega | (simp only [Js, Jt, Ju, Jv, Jw, Jy, tabsL, Jz]; omega))) ?_
  refine Zc rfl (fun _ => Yy (Zb rfl) Zr (fun _ => by first | omega | (simp only [Js, Jt, Ju, Jv, Jw, Jy, tabsL, Jz]; omega))) ?_
  refine Zc rfl (fun _ => Ze (Zb rfl)) ?_
  refine Zg (hK11 _ _ ?_)
  refine Ye (Yf rfl rfl ?_)
  exact ⟨by rw [e], g⟩
theorem rpk_all (hdig : ∀ (n : Int) (w : World), 0 ≤ n → n ≤ 9223372036854775807 → Ret PP fn_r03_Digits #[.int .i64 n] w fun r w' => r = Str (digL n.toNat) ∧ G w w') (t : Nd) : RPk t := by
  have h : ∀ n, ∀ t, count t = n → RPk t := by
    intro n
    induction n using Nat.strongRecOn with
    | ind n ih =>
      intro t hn
      have hb : RPel t := fun k hk => ih (count k) (by omega) k rfl
      exact ⟨fun hx hok => rexpr_ok hb hx hok fun h24 w => hdig _ w (sh24 h24 hx) (ok_num hok), fun hx hok => rstmt_ok hb hx hok fun h22 => rselect_ok hb hx hok h22, fun hx hok => rif_ok hb hx hok⟩
  exact h _ t rfl
end Go.Rk
namespace Go.Rk
open Go Go.RowKit
set_option linter.unusedVariables false
theorem rprint_ok (hdecl : ∀ (t : Nd) (v : Value) (D : Nat → Prop) (w : World), declB t = true → okNd t → Kd w D t.kids v → count t ≤ 1000000 → (declX t).length < 100000000 → Ret PP fn_r03_declText #[ndV t v] w fun r w' => r = Str (declX t) ∧ G w w')
    (t : Nd) (v : Value) (D : Nat → Prop) (w : World) (hk : Kd w D t.kids v) (hcn : count t ≤ 1000000) (hok : okNd t) (hlen : (printX t).length < 100000000) : Ret PP fn_r03_Print #[ndV t v] w fun r w' => r = Str (printX t) ∧ G w w' := by
  have g := G.refl w
  have hln := Vs t
  have hcq : count t = 1 + (t.kids.map count).sum := Wt t
  have hk0 := hk
  obtain ⟨p, c, rfl, _, hks⟩ := hk
  refine Yl (m := 25) func_r03_Print rfl rfl [(0, True, _)] (Za rfl (Zd _)) ?_
  refine Zh fun K1 hK1 => ?_
  refine Zf [1, 3] ?_
  refine Xt rfl (Zb rfl) rfl ?_
  intro b1 w1 N1
  have l1 := N1.ge g
  have g := g.trans (N1.g)
  have B1 := N1.blk
  refine Zc rfl (fun _ => Ze Zr) ?_
  refine Zj [(1, _, _), (2, _, _)] (Za rfl (Za rfl (Zd _))) ?_
  refine Zg (hK1 _ _ ?_)
  refine Zh fun K2 hK2 => ?_
  refine Zh fun K3 hK3 => ?_
  refine Zf [0, 1, 3] ?_
  refine Zv rfl (Zy Zq (Zb rfl) rfl (fun _ => B1.row)) ?_
  refine Yb rfl (Zt go_r03_Valid Yi (Zi (Zb rfl) (Zp)) rfl) (rvalid03_ok t _ D _ (hk0.grow g) hcn) ?_
  rintro v6 w6 ⟨rfl, g6⟩
  refine ⟨fun _ => g6, ?_⟩
  have g := g.trans (g6)
  replace B1 := B1.grow (g6)
  refine Zc rfl (fun _ => Uc (Zb rfl)) ?_
  refine Zj [(1, _, _), (2, _, _), (7, _, _)] (Za rfl (Za rfl (Za rfl (Zd _)))) ?_
  refine Zg (hK3 _ _ ?_)
  refine Ya (Zb rfl) (fun h1 => ?_) (fun h1 => ?_)
  · have e : printX t = [] := by unfold printX; simp only [Bool.not_eq_true'] at h1; rw [h1]; rfl
    refine Zh fun K4 hK4 => ?_
    refine Zf [3] ?_
    refine Zc rfl (fun _ => Ze Zr) ?_
    refine Zj [(1, _, _), (2, _, _)] (Za rfl (Za rfl (Zd _))) ?_
    refine Zg (hK4 _ _ ?_)
    refine Ye (Yf rfl rfl ?_)
    exact ⟨by rw [e], g⟩
  have h1 : validB t = true := by simpa using h1
  have e : printX t = prX t.kids := by unfold printX; rw [h1]; rfl
  rw [e] at hlen
  have hds := List.all_eq_true.1 (valid_decl h1)
  refine Yt (hK2 _ _ ?_)
  refine Yn [(1, _, _), (2, _, _)] (Za rfl (Za rfl (Zd _))) ?_
  refine Zh fun K5 hK5 => ?_
  refine Zf [3] ?_
  refine Zc rfl (fun _ => Ze Zr) ?_
  refine Zg (hK5 _ _ ?_)
  refine Zh fun K6 hK6 => ?_
  refine Zh fun K7 hK7 => ?_
  refine Zf [3] ?_
  refine Zc rfl (fun _ => Ze Zr) ?_
  refine Zg (hK7 _ _ ?_)
  refine Yr ?_
  refine Wa (fun (i : Nat) u1 => (i ≤ t.kids.length) ∧ G w6 u1) [(1, True, _), (2, True, _)] (fun (i : Nat) => [(3, True, Str (prX (t.kids.take i))), (4, True, .int .i64 i)]) (fun (i : Nat) => t.kids.length - i) (0) ⟨Nat.zero_le _, G.refl _⟩ (Za rfl (Za rfl (Za rfl (Za rfl (Zd _))))) ?_
  rintro i u1 ⟨hI1, gl1⟩
  have g := g.trans gl1
  replace B1 := B1.grow (gl1)
  refine Zh fun K8 hK8 => ?_
  refine Zh fun K9 hK9 => ?_
  refine Zf [3, 3, 0, 3, 3] ?_
  refine Zc rfl (fun _ => Zk (Zb rfl)) ?_
  refine Zc rfl (fun _ => Zn Zo (Zb rfl)) ?_
  refine Zv rfl (Zs Zm (Zb rfl) (fun _ => B1.at_ rfl)) ?_
  refine Zc rfl (fun _ => Xr Zl (Zb rfl)) ?_
  refine Zc rfl (fun _ => Va (Zb rfl) (Zb rfl)) ?_
  refine Zj [(1, _, _), (2, _, _), (3, _, _), (4, _, _), (12, _, _)] (Za rfl (Za rfl (Za rfl (Za rfl (Za rfl (Zd _)))))) ?_
  refine Zg (hK9 _ _ ?_)
  refine Ya (Zb rfl) (fun h2 => ?_) (fun h2 => ?_)
  · replace h2 : i < t.kids.length := by simp only [decide_eq_true_eq] at h2; omega
    obtain ⟨b9, o9, rfl, hD9, xs, hR, hX⟩ := hks (by omega)
    obtain ⟨p9, c9, hcell, hkid⟩ := Qv hR hX h2
    have hjs := prX_snoc t.kids h2
    have hjl := prX_le t.kids (i + 1)
    rw [hjs] at hjl
    simp only [Js, Jt, Ju, Jv, Jw, Jy, tabsL, Jz] at hjl
    have hcs := sum_le t.kids h2
    refine Yt (hK8 _ _ ?_)
    refine Yn [(1, _, _), (2, _, _), (3, _, _), (4, _, _)] (Za rfl (Za rfl (Za rfl (Za rfl (Zd _))))) ?_
    refine Zh fun K10 hK10 => ?_
    refine Yr ?_
    refine Zf [3, 3, 0, 3, 3, 0, 1, 3, 3, 3] ?_
    refine Zc rfl (fun _ => Zk (Zb rfl)) ?_
    refine Zc rfl (fun _ => Zn Zo (Zb rfl)) ?_
    refine Zv rfl (Zs Zm (Zb rfl) (fun _ => B1.at_ rfl)) ?_
    refine Zc rfl (fun _ => Zk (Zb rfl)) ?_
    refine Zc rfl (fun _ => Vb Zl (Zb rfl) (Zb rfl) (fun _ => by first | omega | (simp only [Js, Jt, Ju, Jv, Jw, Jy, tabsL, Jz]; omega))) ?_
    refine Zv rfl (Zy Zq (Zb rfl) rfl (fun _ => hcell.grow g)) ?_
    refine Yb rfl (Zt go_r03_declText Yi (Zi (Zb rfl) (Zp)) rfl) (hdecl _ _ D _ (hds _ (List.getElem_mem h2)) (Ua hok (List.getElem_mem h2)) (hkid.grow g) (by omega) (by omega)) ?_
    rintro v21 w21 ⟨rfl, g21⟩
    refine ⟨fun _ => g21, ?_⟩
    have g := g.trans (g21)
    try have gl1 := gl1.trans (g21)
    replace B1 := B1.grow (g21)
    refine Zc rfl (fun _ => Yy (Zb rfl) Zr (fun _ => by first | omega | (simp only [Js, Jt, Ju, Jv, Jw, Jy, tabsL, Jz]; omega))) ?_
    refine Zc rfl (fun _ => Yy (Zb rfl) (Zb rfl) (fun _ => by first | omega | (simp only [Js, Jt, Ju, Jv, Jw, Jy, tabsL, Jz]; omega))) ?_
    refine Zc rfl (fun _ => Ze (Zb rfl)) ?_
    refine Zj [(1, _, _), (2, _, _), (3, _, _), (4, _, _)] (Za rfl (Za rfl (Za rfl (Za rfl (Zd _))))) ?_
    refine Zg (hK10 _ _ ?_)
    refine Zf [3, 3, 3] ?_
    refine Zc rfl (fun _ => Zk (Zb rfl)) ?_
    refine Zc rfl (fun _ => Xm (Zb rfl) Zr (fun _ => by first | omega | (simp only [Js, Jt, Ju, Jv, Jw, Jy, tabsL, Jz]; omega))) ?_
    refine Zc rfl (fun _ => Ze (Zb rfl)) ?_
    refine Zj [(3, _, _), (4, _, _), (1, _, _), (2, _, _)] (Za rfl (Za rfl (Za rfl (Za rfl (Zd _))))) ?_
    refine Zg (fun a ha => ?_)
    rw [← hjs] at ha
    exact ⟨i + 1, ha, ⟨h2, gl1⟩, by omega⟩
  replace h2 : i = t.kids.length := by simp only [decide_eq_false_iff_not] at h2; omega
  refine Xz rfl (hK6 _ _ ?_)
  refine Yn [(2, _, _), (3, _, _)] (Za rfl (Za rfl (Zd _))) ?_
  refine Zh fun K11 hK11 => ?_
  refine Zf [3, 3] ?_
  refine Zc rfl (fun _ => Zk (Zb rfl)) ?_
  refine Zc rfl (fun _ => Ze (Zb rfl)) ?_
  refine Zg (hK11 _ _ ?_)
  refine Ye (Yf rfl rfl ?_)
  exact ⟨by rw [e, h2, List.take_length], g⟩
end Go.Rk
