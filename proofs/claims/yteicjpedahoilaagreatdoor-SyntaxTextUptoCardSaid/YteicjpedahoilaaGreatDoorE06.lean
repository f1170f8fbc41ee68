/- Merged texts of one road: SynC, SynD, SynE. Conditions: each text's own. -/
import Derived.Test.YteicjpedahoilaaGreatDoorE05
set_option linter.unusedSimpArgs false
set_option linter.unusedVariables false
namespace Go.Rk
open Go Go.RowKit
theorem Jdb {w : World} {D : Nat → Prop} {t : Nd} {p : Option Addr} {c : Nat} (hk : Kd w D t.kids (.slice p t.kids.length c)) (i : Nat) : ∃ p' c', i < t.kids.length → p = some ⟨pb p, po p, none⟩ ∧ RowAt w (pb p) (po p + i * 9) (ndCells (kidAt t i) (.slice p' (kidAt t i).kids.length c')) ∧ Kd w D (kidAt t i).kids (.slice p' (kidAt t i).kids.length c') := by
  by_cases h : i < t.kids.length
  · obtain ⟨h1, p', c', h2, h3⟩ := Xw hk h
    exact ⟨p', c', fun _ => ⟨h1, h2, h3⟩⟩
  · exact ⟨none, 0, fun h' => absurd h' h⟩
def lenK (t : Nd) (n : Int) : Bool := decide ((t.kids.length : Int) = n)
def fileVarB (k : Nd) : Bool := decide (k.kind = 6) && (!lenK k 2 || !decide ((kidAt k 1).kind = 9))
def formB (t : Nd) : Bool :=
  bif decide (t.kind = 1) then !(t.kids.any fileVarB) && everyB t (memK [2, 6, 4])
  else bif anyK [2, 5] t.kind then everyB t (memK [3])
  else bif decide (t.kind = 3) then kidsB t [typK]
  else bif decide (t.kind = 4) then kidsB t [memK [5], fun k => typK k || memK [9] k, memK [10]]
  else bif decide (t.kind = 6) then kidsB t [typK, fun k => expK k || memK [9] k]
  else bif decide (t.kind = 10) then everyB t stK
  else bif anyK [11, 17, 21, 28, 31, 33, 35, 36, 37] t.kind then kidsB t [expK]
  else bif anyK [12, 16, 29, 32] t.kind then kidsB t [expK, expK]
  else bif decide (t.kind = 13) then kidsB t [memK [30, 33]]
  else bif anyK [14, 15] t.kind then kidsB t [memK [30]]
  else bif decide (t.kind = 18) then kidsB t [expK, memK [10], memK [10, 18, 9]]
  else bif decide (t.kind = 19) then kidsB t [fun k => expK k || memK [9] k, memK [10]]
  else bif decide (t.kind = 20) then lenK t 0 || kidsB t [expK]
  else bif decide (t.kind = 22) then everyB t (memK [23])
  else bif decide (t.kind = 23) then (lenK t 2 && commB (kidAt t 0)) && memK [10] (kidAt t 1).kind
  else bif decide (t.kind = 30) then decide ((0 : Int) < t.kids.length) && everyB t expK
  else bif decide (t.kind = 24) then lenK t 0 && decide (0 ≤ t.num)
  else bif decide (t.kind = 25) then lenK t 0 && (decide (t.num = 0) || decide (t.num = 1))
  else bif anyK [27, 34, 26, 9, 7, 8] t.kind then lenK t 0
  else bif decide (t.kind = 38) then kidsB t [memK [10]]
  else false
set_option maxHeartbeats 2000000 in
theorem form_ok (t : Nd) (p : Option Addr) (c : Nat) (D : Nat → Prop) (w : World) (hk : Kd w D t.kids (.slice p t.kids.length c)) (hc : t.kids.length ≤ 1000000) (hcc : ∀ i, (kidAt t i).kids.length ≤ 1000000) : Ret PP Zgc #[ndV t (.slice p t.kids.length c)] w fun v w' => v = .bool (formB t) ∧ G w w' := by
  have g := G.refl w
  have hc0 := hc
  refine Ym (m := 221) Wxb rfl rfl [(0, True, _)] (Za rfl (Zd _)) ?_
  refine Zg fun K1 hK1 => ?_
  refine Zf [1, 3] ?_
  refine Wd rfl (Zb rfl) rfl ?_
  intro b1 w1 N1
  have l1 := N1.ge g
  have g := g.trans (N1.g)
  have B1 := N1.blk
  refine Zc rfl (fun _ => Ze Zl) ?_
  refine Zj [(1, _, _), (2, _, _)] (Za rfl (Za rfl (Zd _))) ?_
  refine Zh (hK1 _ _ ?_)
  refine Zg fun K2 hK2 => ?_
  refine Zf [1, 1, 1, 1, 3, 3] ?_
  refine Zx [_] rfl Wt Qc (Zp Zl (Yc)) rfl rfl ?_
  intro b7 w7 N7
  have x7_1 := N7.ne B1
  have l7 := N7.ge g
  have g := g.trans (N7.g)
  replace B1 := B1.grow (N7.g)
  have B7 := N7.blk
  refine Yd rfl (Zu Wj Yl (Zk (Zb rfl) (Zn)) rfl) (Qx [10] _ _ _ _ B7.row (by decide)) ?_
  rintro v8 w8 ⟨hA8, g8⟩
  have hq8 := hA8
  obtain ⟨f8, fs8, cs8, rfl, hgo8, hf8⟩ := hq8
  refine ⟨fun _ => g8, ?_⟩
  have g := g.trans g8
  replace B1 := B1.grow (g8)
  replace B7 := B7.grow (g8)
  have gm8 := G.refl w8
  refine Zx [_] rfl Wt Qc (Zp Zl (Yc)) rfl rfl ?_
  intro b9 w9 N9
  have x9_1 := N9.ne B1
  have x9_7 := N9.ne B7
  have l9 := N9.ge g
  try have l9_gm8 := N9.ge gm8
  have g := g.trans (N9.g)
  try have gm8 := gm8.trans (N9.g)
  replace B1 := B1.grow (N9.g)
  replace B7 := B7.grow (N9.g)
  have B9 := N9.blk
  refine Yd rfl (Zu Wj Yl (Zk (Zb rfl) (Zn)) rfl) (Qx [3] _ _ _ _ B9.row (by decide)) ?_
  rintro v10 w10 ⟨hA10, g10⟩
  have hq10 := hA10
  obtain ⟨f10, fs10, cs10, rfl, hgo10, hf10⟩ := hq10
  refine ⟨fun _ => g10, ?_⟩
  have g := g.trans g10
  try have gm8 := gm8.trans (g10)
  replace B1 := B1.grow (g10)
  replace B7 := B7.grow (g10)
  replace B9 := B9.grow (g10)
  have gm10 := G.refl w10
  refine Zc rfl (fun _ => Ze (Zb rfl)) ?_
  refine Zc rfl (fun _ => Ze (Zb rfl)) ?_
  refine Zj [(1, _, _), (2, _, _), (3, _, _), (4, _, _)] (Za rfl (Za rfl (Za rfl (Za rfl (Zd _))))) ?_
  refine Zh (hK2 _ _ ?_)
  refine Zg fun K3 hK3 => ?_
  refine Zg fun K4 hK4 => ?_
  refine Zf [3, 0] ?_
  refine Zc rfl (fun _ => Zm Ys (Zb rfl)) ?_
  refine Ya rfl (Zt Yy (Zb rfl) (fun _ => B1.at_ rfl)) ?_
  refine Zj [(1, _, _), (2, _, _), (3, _, _), (4, _, _), (12, _, _)] (Za rfl (Za rfl (Za rfl (Za rfl (Za rfl (Zd _)))))) ?_
  refine Zh (hK4 _ _ ?_)
  refine Yp ?_
  refine Zg fun K5 hK5 => ?_
  refine Zf [3, 3] ?_
  refine Zc rfl (fun _ => Yg (Zb rfl) Zl) ?_
  refine Zc rfl (fun _ => Ze (Zb rfl)) ?_
  refine Zj [(1, _, _), (2, _, _), (3, _, _), (4, _, _), (12, _, _), (13, _, _)] (Za rfl (Za rfl (Za rfl (Za rfl (Za rfl (Za rfl (Zd _))))))) ?_
  refine Zh (hK5 _ _ ?_)
  refine Zz (Zb rfl) (fun h1 => ?_) (fun h1 => ?_)
  · (try simp only [bsimp] at h1)
    refine Zg fun K6 hK6 => ?_
    refine Zg fun K7 hK7 => ?_
    refine Zf [3, 0, 3, 3] ?_
    refine Zc rfl (fun _ => Zm Zv (Zb rfl)) ?_
    refine Ya rfl (Zt Zq (Zb rfl) (fun _ => B1.at_ rfl)) ?_
    refine Zc rfl (fun _ => Xx Zo (Zb rfl)) ?_
    refine Zc rfl (fun _ => Zi Zl) ?_
    refine Zj [(1, _, _), (2, _, _), (16, _, _), (17, _, _), (18, _, _)] (Za rfl (Za rfl (Za rfl (Za rfl (Za rfl (Zd _)))))) ?_
    refine Zh (hK7 _ _ ?_)
    refine Yp ?_
    refine Wv (fun (i : Nat) u1 => (i ≤ t.kids.length ∧ ∀ j, (h : j < t.kids.length) → j < i → fileVarB t.kids[j] = false) ∧ G w10 u1) [(1, True, _), (16, True, _), (17, True, _)] (fun (i : Nat) => [(18, True, .int .i64 i)]) (fun (i : Nat) => t.kids.length - i) (0) ⟨⟨Nat.zero_le _, fun j _ hj => absurd hj (Nat.not_lt_zero j)⟩, G.refl _⟩ (Za rfl (Za rfl (Za rfl (Za rfl (Zd _))))) ?_
    rintro i u1 ⟨hI1, gl1⟩
    have g := g.trans gl1
    have gm8 := gm8.trans gl1
    have gm10 := gm10.trans gl1
    replace B1 := B1.grow (gl1)
    replace B7 := B7.grow (gl1)
    replace B9 := B9.grow (gl1)
    refine Zg fun K8 hK8 => ?_
    refine Zf [3] ?_
    refine Zc rfl (fun _ => Vh (Zb rfl) (Zb rfl)) ?_
    refine Zh (hK8 _ _ ?_)
    refine Yi [(1, _, _), (16, _, _), (17, _, _), (18, _, _), (19, _, _)] (Za rfl (Za rfl (Za rfl (Za rfl (Za rfl (Zd _)))))) ?_
    refine Zg fun K9 hK9 => ?_
    refine Zz (Zb rfl) (fun h2 => ?_) (fun h2 => ?_)
    · replace h2 : i < t.kids.length := by simp only [decide_eq_true_eq] at h2; omega
      obtain ⟨hpe, p2, c2, hcell, hkid⟩ := Xw hk h2
      have hcci := hcc i
      refine Yq (hK9 _ _ ?_)
      refine Yi [(1, _, _), (16, _, _), (17, _, _), (18, _, _)] (Za rfl (Za rfl (Za rfl (Za rfl (Zd _))))) ?_
      refine Zg fun K10 hK10 => ?_
      refine Yp ?_
      refine Zg fun K11 hK11 => ?_
      refine Zf [3, 0, 1, 2] ?_
      refine Zc rfl (fun _ => Xc Zo (Zb rfl) (Zb rfl) (fun _ => by omega) (fun _ => hpe)) ?_
      refine Ya rfl (Yb Zr (Zb rfl) rfl (fun _ => hcell.grow g)) ?_
      refine Xr rfl Yo rfl ?_
      intro b6 w6 N6
      have x6_1 := N6.ne B1
      have x6_7 := N6.ne B7
      have x6_9 := N6.ne B9
      have l6 := N6.ge g
      try have l6_gm8 := N6.ge gm8
      try have l6_gm10 := N6.ge gm10
      try have l6_gl1 := N6.ge gl1
      have g := g.trans (N6.g)
      try have gm8 := gm8.trans (N6.g)
      try have gm10 := gm10.trans (N6.g)
      try have gl1 := gl1.trans (N6.g)
      replace B1 := B1.grow (N6.g)
      replace B7 := B7.grow (N6.g)
      replace B9 := B9.grow (N6.g)
      have B6 := N6.blk
      refine Yu rfl Xi (Zb rfl) (Zb rfl) rfl rfl B6 rfl rfl ?_
      intro wS1 hgS1 hzS1
      clear B6
      intro B6
      replace B1 := B1.keep hgS1 (by intro h; injection h with h; first | exact x6_1 h.symm | exact x1_6 h | omega)
      replace B7 := B7.keep hgS1 (by intro h; injection h with h; first | exact x6_7 h.symm | exact x7_6 h | omega)
      replace B9 := B9.keep hgS1 (by intro h; injection h with h; first | exact x6_9 h.symm | exact x9_6 h | omega)
      have g := Xo g hgS1 (by intro k hk; injection hk with hk; omega)
      first | replace gm8 := Xo gm8 hgS1 (by intro k hk; injection hk with hk; omega) | clear gm8 | skip
      first | replace gm10 := Xo gm10 hgS1 (by intro k hk; injection hk with hk; omega) | clear gm10 | skip
      first | replace gl1 := Xo gl1 hgS1 (by intro k hk; injection hk with hk; omega) | clear gl1 | skip
      refine Zj [(1, _, _), (6, _, _), (16, _, _), (17, _, _), (18, _, _)] (Za rfl (Za rfl (Za rfl (Za rfl (Za rfl (Zd _)))))) ?_
      refine Zh (hK11 _ _ ?_)
      refine Zg fun K12 hK12 => ?_
      refine Zf [3, 0, 3, 3, 3, 0, 3, 3, 3, 3, 0, 3, 3, 0, 3, 3, 3] ?_
      refine Zc rfl (fun _ => Zm Ys (Zb rfl)) ?_
      refine Ya rfl (Zt Yy (Zb rfl) (fun _ => B6.at_ rfl)) ?_
      refine Zc rfl (fun _ => Yg (Zb rfl) Zl) ?_
      refine Zc rfl (fun _ => Zi (Zb rfl)) ?_
      refine Zs rfl rfl rfl (fun _ => Zm Zv (Zb rfl)) ?_
      refine Yr rfl rfl rfl (Zt Zq (Zy rfl id) (fun _ => B6.at_ rfl)) ?_
      refine Zs rfl rfl rfl (fun _ => Xx Zo (Zy rfl id)) ?_
      refine Zs rfl rfl rfl (fun _ => Qi (Zy rfl id) Zl) ?_
      refine Zs rfl rfl rfl (fun _ => Zi (Zy rfl id)) ?_
      refine Zs rfl rfl rfl (fun _ => Zm Zv (Zb rfl)) ?_
      refine Yr rfl rfl rfl (Zt Zq (Zy rfl id) (fun _ => B6.at_ rfl)) ?_
      refine Zs rfl rfl rfl (fun _ => Xc Zo (Zy rfl id) Zl (fun hc => by have := hc.2; simp only [Bool.not_eq_false', decide_eq_true_eq] at this; omega) (fun hc => (Xw hkid (i := 1) (by have := hc.2; simp only [Bool.not_eq_false', decide_eq_true_eq] at this; omega)).1)) ?_
      refine Zs rfl rfl rfl (fun _ => Zm Ys (Zy rfl id)) ?_
      refine Yr rfl rfl rfl (Zt Yy (Zy rfl id) (fun hc => by
      obtain ⟨_, p', c', hcell', _⟩ := Xw hkid (i := 1) (by have := hc.2; simp only [Bool.not_eq_false', decide_eq_true_eq] at this; omega)
      exact (hcell'.grow g) 0 _ rfl)) ?_
      refine Zs rfl rfl rfl (fun _ => Qi (Zy rfl id) Zl) ?_
      refine Zs rfl rfl rfl (fun _ => Yz (Zy rfl id) (Zy rfl id)) ?_
      refine Zc rfl (fun _ => Ye (Zb rfl) (Zy rfl id)) ?_
      refine Zj [(1, _, _), (16, _, _), (17, _, _), (18, _, _), (38, _, _)] (Za rfl (Za rfl (Za rfl (Za rfl (Za rfl (Zd _)))))) ?_
      refine Zh (hK12 _ _ ?_)
      refine Zz (Zb rfl) (fun h3 => ?_) (fun h3 => ?_)
      · replace h3 : (fileVarB (kidAt t i)) = true := h3
        have hany : t.kids.any fileVarB = true := List.any_eq_true.2 ⟨_, List.getElem_mem h2, by rw [← Xu h2]; exact h3⟩
        refine Zg fun K13 hK13 => ?_
        refine Zf [3] ?_
        refine Zc rfl (fun _ => Ze Zl) ?_
        refine Zj [(1, _, _), (2, _, _), (16, _, _), (17, _, _), (18, _, _)] (Za rfl (Za rfl (Za rfl (Za rfl (Za rfl (Zd _)))))) ?_
        refine Zh (hK13 _ _ ?_)
        refine Yf (Yj rfl rfl ?_)
        refine ⟨congrArg Value.bool ?_, g⟩
        unfold formB; rw [h1, hany]; rfl
      replace h3 : (fileVarB (kidAt t i)) = false := h3
      refine Yq (hK10 _ _ ?_)
      refine Yi [(1, _, _), (16, _, _), (17, _, _), (18, _, _)] (Za rfl (Za rfl (Za rfl (Za rfl (Zd _))))) ?_
      refine Zf [3, 3] ?_
      refine Zc rfl (fun _ => Xq (Zb rfl) Zl (fun _ => by omega)) ?_
      refine Zc rfl (fun _ => Zi (Zb rfl)) ?_
      refine Zj [(18, _, _), (1, _, _), (16, _, _), (17, _, _)] (Za rfl (Za rfl (Za rfl (Za rfl (Zd _))))) ?_
      refine Zh (fun a ha => ?_)
      refine ⟨i + 1, ha, ⟨⟨h2, fun j h hj => ?_⟩, gl1⟩, by omega⟩
      by_cases e : j = i
      · subst e; rw [← Xu h2]; exact h3
      · exact hI1.2 j h (by omega)
    replace h2 : i = t.kids.length := by simp only [decide_eq_false_iff_not] at h2; omega
    have hnone : t.kids.any fileVarB = false := by
      rw [List.any_eq_false]; intro x hx
      obtain ⟨j, hj, rfl⟩ := List.getElem_of_mem hx
      rw [hI1.2 j hj (by omega)]; simp
    refine Wa rfl (hK6 _ _ ?_)
    refine Yi [(1, _, _)] (Za rfl (Zd _)) ?_
    refine Zg fun K14 hK14 => ?_
    refine Vm [0, 1, 1, 1, 3] [true, true, true, true, true] [0, 0, 2, 7, 15] mix (by kernel_rfl) ?_
    have g := g.trans (G.drew _)
    try have gm8 := gm8.trans (G.drew _)
    try have gm10 := gm10.trans (G.drew _)
    try have gl1 := gl1.trans (G.drew _)
    replace B1 := B1.grow (G.drew _)
    replace B7 := B7.grow (G.drew _)
    replace B9 := B9.grow (G.drew _)
    refine Ya rfl (Yb Zr (Zb rfl) rfl (fun _ => B1.row)) ?_
    refine Zx [_, _, _] rfl Wt Qc (Zp Zl (Zp Zl (Zp Zl (Yc)))) rfl rfl ?_
    intro b41 w41 N41
    have x41_1 := N41.ne B1
    have x41_7 := N41.ne B7
    have x41_9 := N41.ne B9
    have l41 := N41.ge g
    try have l41_gm8 := N41.ge gm8
    try have l41_gm10 := N41.ge gm10
    try have l41_gl1 := N41.ge gl1
    have g := g.trans (N41.g)
    try have gm8 := gm8.trans (N41.g)
    try have gm10 := gm10.trans (N41.g)
    try have gl1 := gl1.trans (N41.g)
    replace B1 := B1.grow (N41.g)
    replace B7 := B7.grow (N41.g)
    replace B9 := B9.grow (N41.g)
    have B41 := N41.blk
    refine Yd rfl (Zu Wj Yl (Zk (Zb rfl) (Zn)) rfl) (Qx [2, 6, 4] _ _ _ _ B41.row (by decide)) ?_
    rintro v42 w42 ⟨hA42, g42⟩
    have hq42 := hA42
    obtain ⟨f42, fs42, cs42, rfl, hgo42, hf42⟩ := hq42
    refine ⟨fun _ => g42, ?_⟩
    have g := g.trans g42
    try have gm8 := gm8.trans (g42)
    try have gm10 := gm10.trans (g42)
    try have gl1 := gl1.trans (g42)
    replace B1 := B1.grow (g42)
    replace B7 := B7.grow (g42)
    replace B9 := B9.grow (g42)
    replace B41 := B41.grow (g42)
    have gm42 := G.refl w42
    refine Xe rfl (Zu Qs Yl (Zk (Zb rfl) (Zk Zl (Zk (Zb rfl) (Zn)))) rfl) (Jqa t _ _ D (memK [2, 6, 4]) _ _ (hk.grow g) (hA42.grow gm42) hc) (fun w43 g43 => ?_)
    have g := g.trans (g43)
    try have gm8 := gm8.trans (g43)
    try have gm10 := gm10.trans (g43)
    try have gl1 := gl1.trans (g43)
    try have gm42 := gm42.trans (g43)
    replace B1 := B1.grow (g43)
    replace B7 := B7.grow (g43)
    replace B9 := B9.grow (g43)
    replace B41 := B41.grow (g43)
    refine Zc rfl (fun _ => Ze (Zb rfl)) ?_
    refine Zh (hK14 _ _ ?_)
    refine Yi [(1, _, _), (2, _, _), (40, _, _), (41, _, _), (42, _, _), (43, _, _)] (Za rfl (Za rfl (Za rfl (Za rfl (Za rfl (Za rfl (Zd _))))))) ?_
    refine Yf (Yj rfl rfl ?_)
    refine ⟨congrArg Value.bool ?_, g⟩
    unfold formB; rw [h1, hnone]; rfl
  (try simp only [bsimp] at h1)
  refine Zg fun K15 hK15 => ?_
  refine Zg fun K16 hK16 => ?_
  refine Zf [3, 3] ?_
  refine Zc rfl (fun _ => Yg (Zb rfl) Zl) ?_
  refine Zc rfl (fun _ => Ze (Zb rfl)) ?_
  refine Zj [(1, _, _), (2, _, _), (3, _, _), (4, _, _), (12, _, _), (44, _, _)] (Za rfl (Za rfl (Za rfl (Za rfl (Za rfl (Za rfl (Zd _))))))) ?_
  refine Zh (hK16 _ _ ?_)
  refine' Yk [(1, _, _), (2, _, _), (3, _, _), (4, _, _), (12, _, _)] (Za rfl (Za rfl (Za rfl (Za rfl (Za rfl (Za rfl (Zd _))))))) rfl (fun hb4 => ?y4) (hK15 _ _ ?n4)
  case y4 =>
   refine Zf [3, 3] ?_
   refine Zc rfl (fun _ => Yg (Zb rfl) Zl) ?_
   refine Zc rfl (fun _ => Ze (Zb rfl)) ?_
   refine Zj [(44, _, _), (1, _, _), (2, _, _), (3, _, _), (4, _, _), (12, _, _)] (Za rfl (Za rfl (Za rfl (Za rfl (Za rfl (Za rfl (Zd _))))))) ?_
   exact Zh (fun a ha => ⟨ha, rfl⟩)
  case n4 =>
   refine Zz (Zb rfl) (fun h5 => ?_) (fun h5 => ?_)
   · (try simp only [bsimp] at h5)
     refine Zg fun K17 hK17 => ?_
     refine Zf [0, 3, 1, 3] ?_
     refine Ya rfl (Yb Zr (Zb rfl) rfl (fun _ => B1.row)) ?_
     refine Zc rfl (fun _ => Zi (Zb rfl)) ?_
     refine Xe rfl (Zu Qs Yl (Zk (Zb rfl) (Zk Zl (Zk (Zb rfl) (Zn)))) rfl) (Jqa t _ _ D (memK [3]) _ _ (hk.grow g) (hA10.grow gm10) hc) (fun w49 g49 => ?_)
     have g := g.trans (g49)
     try have gm8 := gm8.trans (g49)
     try have gm10 := gm10.trans (g49)
     replace B1 := B1.grow (g49)
     replace B7 := B7.grow (g49)
     replace B9 := B9.grow (g49)
     refine Zc rfl (fun _ => Ze (Zb rfl)) ?_
     refine Zj [(2, _, _)] (Za rfl (Zd _)) ?_
     refine Zh (hK17 _ _ ?_)
     refine Yf (Yj rfl rfl ?_)
     refine ⟨congrArg Value.bool ?_, g⟩
     unfold formB; simp only [anyK, h1, h5, cond_true, cond_false] <;> rfl
   (try simp only [bsimp] at h5)
   refine Zg fun K18 hK18 => ?_
   refine Zf [3, 3] ?_
   refine Zc rfl (fun _ => Yg (Zb rfl) Zl) ?_
   refine Zc rfl (fun _ => Ze (Zb rfl)) ?_
   refine Zj [(1, _, _), (2, _, _), (3, _, _), (12, _, _), (50, _, _)] (Za rfl (Za rfl (Za rfl (Za rfl (Za rfl (Zd _)))))) ?_
   refine Zh (hK18 _ _ ?_)
   refine Zz (Zb rfl) (fun h6 => ?_) (fun h6 => ?_)
   · (try simp only [bsimp] at h6)
     refine Zg fun K19 hK19 => ?_
     refine Zf [0, 1, 1, 3] ?_
     refine Ya rfl (Yb Zr (Zb rfl) rfl (fun _ => B1.row)) ?_
     refine Zx [_] rfl Xj Xy (Zp Yl (Yc)) rfl rfl ?_
     intro b53 w53 N53
     have x53_1 := N53.ne B1
     have x53_7 := N53.ne B7
     have x53_9 := N53.ne B9
     have l53 := N53.ge g
     try have l53_gm8 := N53.ge gm8
     try have l53_gm10 := N53.ge gm10
     have g := g.trans (N53.g)
     try have gm8 := gm8.trans (N53.g)
     try have gm10 := gm10.trans (N53.g)
     replace B1 := B1.grow (N53.g)
     replace B7 := B7.grow (N53.g)
     replace B9 := B9.grow (N53.g)
     have B53 := N53.blk
     refine Xe rfl (Zu Wl Yl (Zk (Zb rfl) (Zk (Zb rfl) (Zn))) rfl) (Jh t _ _ D [typK] _ _ _ _ _ (hk.grow g) rfl B53.row (fun i h => by match i, h with | 0, _ => exact Zla Qt Jpa _) hc) (fun w54 g54 => ?_)
     have g := g.trans (g54)
     try have gm8 := gm8.trans (g54)
     try have gm10 := gm10.trans (g54)
     replace B1 := B1.grow (g54)
     replace B7 := B7.grow (g54)
     replace B9 := B9.grow (g54)
     replace B53 := B53.grow (g54)
     refine Zc rfl (fun _ => Ze (Zb rfl)) ?_
     refine Zj [(2, _, _)] (Za rfl (Zd _)) ?_
     refine Zh (hK19 _ _ ?_)
     refine Yf (Yj rfl rfl ?_)
     refine ⟨congrArg Value.bool ?_, g⟩
     unfold formB; simp only [anyK, h1, h5, h6, cond_true, cond_false] <;> rfl
   (try simp only [bsimp] at h6)
   refine Zg fun K20 hK20 => ?_
   refine Zf [3, 3] ?_
   refine Zc rfl (fun _ => Yg (Zb rfl) Zl) ?_
   refine Zc rfl (fun _ => Ze (Zb rfl)) ?_
   refine Zj [(1, _, _), (2, _, _), (3, _, _), (12, _, _), (55, _, _)] (Za rfl (Za rfl (Za rfl (Za rfl (Za rfl (Zd _)))))) ?_
   refine Zh (hK20 _ _ ?_)
   refine Zz (Zb rfl) (fun h7 => ?_) (fun h7 => ?_)
   · (try simp only [bsimp] at h7)
     refine Zg fun K21 hK21 => ?_
     refine Jub none [0, 1, 1, 1, 1, 3, 1, 1, 3] [0, 0, 2, 0, 14, 0, 62, 127, 255] mix (by kernel_rfl) [0, 1, 2, 3, 4, 5, 6, 7, 8] rfl ?_
     have g := g.trans (G.drew _)
     try have gm8 := gm8.trans (G.drew _)
     try have gm10 := gm10.trans (G.drew _)
     replace B1 := B1.grow (G.drew _)
     replace B7 := B7.grow (G.drew _)
     replace B9 := B9.grow (G.drew _)
     refine st_rd (L' := [1, 2, 3, 4, 5, 6, 7, 8]) 0 rfl rfl rfl (fun w1 hx => Yb Zr (Zb rfl) rfl (fun _ => (B1.keep hx (by intro h; first | (injection h with h; omega) | cases h)).row)) ?_
     refine Zzb (L' := [1, 2, 3, 4, 6, 7, 8]) 5 rfl rfl rfl (fun _ => Zi (Zb rfl)) ?_
     refine Zcb 1 3 rfl rfl ?_ ?_
     · refine Xt (L' := [2, 3, 4, 6, 7, 8]) [0, 1, 1, 1, 1, 3, 1, 1, 3] rfl rfl rfl ?_
       refine Zx [_] rfl Wt Qc (Zp Zl (Yc)) rfl rfl ?_
       intro b58 w58 N58
       have x58_1 := N58.ne B1
       have x58_7 := N58.ne B7
       have x58_9 := N58.ne B9
       have l58 := N58.ge g
       try have l58_gm8 := N58.ge gm8
       try have l58_gm10 := N58.ge gm10
       have g := g.trans (N58.g)
       try have gm8 := gm8.trans (N58.g)
       try have gm10 := gm10.trans (N58.g)
       replace B1 := B1.grow (N58.g)
       replace B7 := B7.grow (N58.g)
       replace B9 := B9.grow (N58.g)
       have B58 := N58.blk
       refine Wi ((N58.g).only _) ?_
       refine Zcb 2 3 rfl rfl ?_ ?_
       · refine Xt (L' := [3, 4, 6, 7, 8]) [0, 1, 1, 1, 1, 3, 1, 1, 3] rfl rfl rfl ?_
         refine Yd rfl (Zu Wj Yl (Zk (Zb rfl) (Zn)) rfl) (Qx [5] _ _ _ _ B58.row (by decide)) ?_
         rintro v59 w59 ⟨hA59, g59⟩
         have hq59 := hA59
         obtain ⟨f59, fs59, cs59, rfl, hgo59, hf59⟩ := hq59
         refine ⟨fun _ => g59, ?_⟩
         have g := g.trans g59
         try have gm8 := gm8.trans (g59)
         try have gm10 := gm10.trans (g59)
         replace B1 := B1.grow (g59)
         replace B7 := B7.grow (g59)
         replace B9 := B9.grow (g59)
         replace B58 := B58.grow (g59)
         have gm59 := G.refl w59
         refine Wi ((g59).only _) ?_
         refine Va 3 rfl rfl ?_
         refine Xt (L' := [4, 6, 7, 8]) [0, 1, 1, 1, 1, 3, 1, 1, 3] rfl rfl rfl ?_
         refine Zx [_] rfl Wt Qc (Zp Zl (Yc)) rfl rfl ?_
         intro b60 w60 N60
         have x60_1 := N60.ne B1
         have x60_7 := N60.ne B7
         have x60_9 := N60.ne B9
         have x60_58 := N60.ne B58
         have l60 := N60.ge g
         try have l60_gm8 := N60.ge gm8
         try have l60_gm10 := N60.ge gm10
         try have l60_gm59 := N60.ge gm59
         have g := g.trans (N60.g)
         try have gm8 := gm8.trans (N60.g)
         try have gm10 := gm10.trans (N60.g)
         try have gm59 := gm59.trans (N60.g)
         replace B1 := B1.grow (N60.g)
         replace B7 := B7.grow (N60.g)
         replace B9 := B9.grow (N60.g)
         replace B58 := B58.grow (N60.g)
         have B60 := N60.blk
         refine Wi ((N60.g).only _) ?_
         refine Va 4 rfl rfl ?_
         refine Xt (L' := [6, 7, 8]) [0, 1, 1, 1, 1, 3, 1, 1, 3] rfl rfl rfl ?_
         refine Yd rfl (Zu Qb Yl (Zk Yl (Zk (Zb rfl) (Zn))) rfl) (Uaa typK [9] _ _ _ _ _ (Zla Qt Jpa _) B60.row (by decide)) ?_
         rintro v61 w61 ⟨hA61, g61⟩
         have hq61 := hA61
         obtain ⟨f61, fs61, cs61, rfl, hgo61, hf61⟩ := hq61
         refine ⟨fun _ => g61, ?_⟩
         have g := g.trans g61
         try have gm8 := gm8.trans (g61)
         try have gm10 := gm10.trans (g61)
         try have gm59 := gm59.trans (g61)
         replace B1 := B1.grow (g61)
         replace B7 := B7.grow (g61)
         replace B9 := B9.grow (g61)
         replace B58 := B58.grow (g61)
         replace B60 := B60.grow (g61)
         have gm61 := G.refl w61
         refine Wi ((g61).only _) ?_
         refine Va 6 rfl rfl ?_
         refine Xt (L' := [7, 8]) [0, 1, 1, 1, 1, 3, 1, 1, 3] rfl rfl rfl ?_
         refine Zx [_, _, _] rfl Xj Xy (Zp (Zb rfl) (Zp (Zb rfl) (Zp (Zb rfl) (Yc)))) rfl rfl ?_
         intro b63 w63 N63
         have x63_1 := N63.ne B1
         have x63_7 := N63.ne B7
         have x63_9 := N63.ne B9
         have x63_58 := N63.ne B58
         have x63_60 := N63.ne B60
         have l63 := N63.ge g
         try have l63_gm8 := N63.ge gm8
         try have l63_gm10 := N63.ge gm10
         try have l63_gm59 := N63.ge gm59
         try have l63_gm61 := N63.ge gm61
         have g := g.trans (N63.g)
         try have gm8 := gm8.trans (N63.g)
         try have gm10 := gm10.trans (N63.g)
         try have gm59 := gm59.trans (N63.g)
         try have gm61 := gm61.trans (N63.g)
         replace B1 := B1.grow (N63.g)
         replace B7 := B7.grow (N63.g)
         replace B9 := B9.grow (N63.g)
         replace B58 := B58.grow (N63.g)
         replace B60 := B60.grow (N63.g)
         have B63 := N63.blk
         refine Wi ((N63.g).only _) ?_
         refine Va 7 rfl rfl ?_
         refine Xt (L' := [8]) [0, 1, 1, 1, 1, 3, 1, 1, 3] rfl rfl rfl ?_
         refine Xe rfl (Zu Wl Yl (Zk (Zb rfl) (Zk (Zb rfl) (Zn))) rfl) (Jh t _ _ D [memK [5], fun k => typK k || memK [9] k, memK [10]] _ _ _ _ _ (hk.grow g) rfl B63.row (fun i h => by match i, h with | 0, _ => exact hA59.grow gm59 | 1, _ => exact hA61.grow gm61 | 2, _ => exact hA8.grow gm8) hc) (fun w64 g64 => ?_)
         have g := g.trans (g64)
         try have gm8 := gm8.trans (g64)
         try have gm10 := gm10.trans (g64)
         try have gm59 := gm59.trans (g64)
         try have gm61 := gm61.trans (g64)
         replace B1 := B1.grow (g64)
         replace B7 := B7.grow (g64)
         replace B9 := B9.grow (g64)
         replace B58 := B58.grow (g64)
         replace B60 := B60.grow (g64)
         replace B63 := B63.grow (g64)
         refine Wi ((g64).only _) ?_
         refine Zzb (L' := []) 8 rfl rfl rfl (fun _ => Ze (Zb rfl)) ?_
         refine Uka [(2, _, _)] (Za rfl (Zd _)) ?_
         refine Uja (hK21 _ _ ?_)
         refine Yf (Yj rfl rfl ?_)
         refine ⟨congrArg Value.bool ?_, g⟩
         unfold formB; simp only [anyK, h1, h5, h6, h7, cond_true, cond_false] <;> rfl
       · refine Xt (L' := [2, 4, 6, 7, 8]) [0, 1, 1, 1, 1, 3, 1, 1, 3] rfl rfl rfl ?_
         refine Zx [_] rfl Wt Qc (Zp Zl (Yc)) rfl rfl ?_
         intro b60 w60 N60
         have x60_1 := N60.ne B1
         have x60_7 := N60.ne B7
         have x60_9 := N60.ne B9
         have x60_58 := N60.ne B58
         have l60 := N60.ge g
         try have l60_gm8 := N60.ge gm8
         try have l60_gm10 := N60.ge gm10
         have g := g.trans (N60.g)
         try have gm8 := gm8.trans (N60.g)
         try have gm10 := gm10.trans (N60.g)
         replace B1 := B1.grow (N60.g)
         replace B7 := B7.grow (N60.g)
         replace B9 := B9.grow (N60.g)
         replace B58 := B58.grow (N60.g)
         have B60 := N60.blk
         refine Wi ((N60.g).only _) ?_
         refine Va 2 rfl rfl ?_
         refine Xt (L' := [4, 6, 7, 8]) [0, 1, 1, 1, 1, 3, 1, 1, 3] rfl rfl rfl ?_
         refine Yd rfl (Zu Wj Yl (Zk (Zb rfl) (Zn)) rfl) (Qx [5] _ _ _ _ B58.row (by decide)) ?_
         rintro v59 w59 ⟨hA59, g59⟩
         have hq59 := hA59
         obtain ⟨f59, fs59, cs59, rfl, hgo59, hf59⟩ := hq59
         refine ⟨fun _ => g59, ?_⟩
         have g := g.trans g59
         try have gm8 := gm8.trans (g59)
         try have gm10 := gm10.trans (g59)
         replace B1 := B1.grow (g59)
         replace B7 := B7.grow (g59)
         replace B9 := B9.grow (g59)
         replace B58 := B58.grow (g59)
         replace B60 := B60.grow (g59)
         have gm59 := G.refl w59
         refine Wi ((g59).only _) ?_
         refine Va 4 rfl rfl ?_
         refine Xt (L' := [6, 7, 8]) [0, 1, 1, 1, 1, 3, 1, 1, 3] rfl rfl rfl ?_
         refine Yd rfl (Zu Qb Yl (Zk Yl (Zk (Zb rfl) (Zn))) rfl) (Uaa typK [9] _ _ _ _ _ (Zla Qt Jpa _) B60.row (by decide)) ?_
         rintro v61 w61 ⟨hA61, g61⟩
         have hq61 := hA61
         obtain ⟨f61, fs61, cs61, rfl, hgo61, hf61⟩ := hq61
         refine ⟨fun _ => g61, ?_⟩
         have g := g.trans g61
         try have gm8 := gm8.trans (g61)
         try have gm10 := gm10.trans (g61)
         try have gm59 := gm59.trans (g61)
         replace B1 := B1.grow (g61)
         replace B7 := B7.grow (g61)
         replace B9 := B9.grow (g61)
         replace B58 := B58.grow (g61)
         replace B60 := B60.grow (g61)
         have gm61 := G.refl w61
         refine Wi ((g61).only _) ?_
         refine Va 6 rfl rfl ?_
         refine Xt (L' := [7, 8]) [0, 1, 1, 1, 1, 3, 1, 1, 3] rfl rfl rfl ?_
         refine Zx [_, _, _] rfl Xj Xy (Zp (Zb rfl) (Zp (Zb rfl) (Zp (Zb rfl) (Yc)))) rfl rfl ?_
         intro b63 w63 N63
         have x63_1 := N63.ne B1
         have x63_7 := N63.ne B7
         have x63_9 := N63.ne B9
         have x63_58 := N63.ne B58
         have x63_60 := N63.ne B60
         have l63 := N63.ge g
         try have l63_gm8 := N63.ge gm8
         try have l63_gm10 := N63.ge gm10
         try have l63_gm59 := N63.ge gm59
         try have l63_gm61 := N63.ge gm61
         have g := g.trans (N63.g)
         try have gm8 := gm8.trans (N63.g)
         try have gm10 := gm10.trans (N63.g)
         try have gm59 := gm59.trans (N63.g)
         try have gm61 := gm61.trans (N63.g)
         replace B1 := B1.grow (N63.g)
         replace B7 := B7.grow (N63.g)
         replace B9 := B9.grow (N63.g)
         replace B58 := B58.grow (N63.g)
         replace B60 := B60.grow (N63.g)
         have B63 := N63.blk
         refine Wi ((N63.g).only _) ?_
         refine Va 7 rfl rfl ?_
         refine Xt (L' := [8]) [0, 1, 1, 1, 1, 3, 1, 1, 3] rfl rfl rfl ?_
         refine Xe rfl (Zu Wl Yl (Zk (Zb rfl) (Zk (Zb rfl) (Zn))) rfl) (Jh t _ _ D [memK [5], fun k => typK k || memK [9] k, memK [10]] _ _ _ _ _ (hk.grow g) rfl B63.row (fun i h => by match i, h with | 0, _ => exact hA59.grow gm59 | 1, _ => exact hA61.grow gm61 | 2, _ => exact hA8.grow gm8) hc) (fun w64 g64 => ?_)
         have g := g.trans (g64)
         try have gm8 := gm8.trans (g64)
         try have gm10 := gm10.trans (g64)
         try have gm59 := gm59.trans (g64)
         try have gm61 := gm61.trans (g64)
         replace B1 := B1.grow (g64)
         replace B7 := B7.grow (g64)
         replace B9 := B9.grow (g64)
         replace B58 := B58.grow (g64)
         replace B60 := B60.grow (g64)
         replace B63 := B63.grow (g64)
         refine Wi ((g64).only _) ?_
         refine Zzb (L' := []) 8 rfl rfl rfl (fun _ => Ze (Zb rfl)) ?_
         refine Uka [(2, _, _)] (Za rfl (Zd _)) ?_
         refine Uja (hK21 _ _ ?_)
         refine Yf (Yj rfl rfl ?_)
         refine ⟨congrArg Value.bool ?_, g⟩
         unfold formB; simp only [anyK, h1, h5, h6, h7, cond_true, cond_false] <;> rfl
     · refine Xt (L' := [1, 2, 4, 6, 7, 8]) [0, 1, 1, 1, 1, 3, 1, 1, 3] rfl rfl rfl ?_
       refine Zx [_] rfl Wt Qc (Zp Zl (Yc)) rfl rfl ?_
       intro b60 w60 N60
       have x60_1 := N60.ne B1
       have x60_7 := N60.ne B7
       have x60_9 := N60.ne B9
       have l60 := N60.ge g
       try have l60_gm8 := N60.ge gm8
       try have l60_gm10 := N60.ge gm10
       have g := g.trans (N60.g)
       try have gm8 := gm8.trans (N60.g)
       try have gm10 := gm10.trans (N60.g)
       replace B1 := B1.grow (N60.g)
       replace B7 := B7.grow (N60.g)
       replace B9 := B9.grow (N60.g)
       have B60 := N60.blk
       refine Wi ((N60.g).only _) ?_
       refine Va 1 rfl rfl ?_
       refine Xt (L' := [2, 4, 6, 7, 8]) [0, 1, 1, 1, 1, 3, 1, 1, 3] rfl rfl rfl ?_
       refine Zx [_] rfl Wt Qc (Zp Zl (Yc)) rfl rfl ?_
       intro b58 w58 N58
       have x58_1 := N58.ne B1
       have x58_7 := N58.ne B7
       have x58_9 := N58.ne B9
       have x58_60 := N58.ne B60
       have l58 := N58.ge g
       try have l58_gm8 := N58.ge gm8
       try have l58_gm10 := N58.ge gm10
       have g := g.trans (N58.g)
       try have gm8 := gm8.trans (N58.g)
       try have gm10 := gm10.trans (N58.g)
       replace B1 := B1.grow (N58.g)
       replace B7 := B7.grow (N58.g)
       replace B9 := B9.grow (N58.g)
       replace B60 := B60.grow (N58.g)
       have B58 := N58.blk
       refine Wi ((N58.g).only _) ?_
       refine Va 2 rfl rfl ?_
       refine Xt (L' := [4, 6, 7, 8]) [0, 1, 1, 1, 1, 3, 1, 1, 3] rfl rfl rfl ?_
       refine Yd rfl (Zu Wj Yl (Zk (Zb rfl) (Zn)) rfl) (Qx [5] _ _ _ _ B58.row (by decide)) ?_
       rintro v59 w59 ⟨hA59, g59⟩
       have hq59 := hA59
       obtain ⟨f59, fs59, cs59, rfl, hgo59, hf59⟩ := hq59
       refine ⟨fun _ => g59, ?_⟩
       have g := g.trans g59
       try have gm8 := gm8.trans (g59)
       try have gm10 := gm10.trans (g59)
       replace B1 := B1.grow (g59)
       replace B7 := B7.grow (g59)
       replace B9 := B9.grow (g59)
       replace B60 := B60.grow (g59)
       replace B58 := B58.grow (g59)
       have gm59 := G.refl w59
       refine Wi ((g59).only _) ?_
       refine Va 4 rfl rfl ?_
       refine Xt (L' := [6, 7, 8]) [0, 1, 1, 1, 1, 3, 1, 1, 3] rfl rfl rfl ?_
       refine Yd rfl (Zu Qb Yl (Zk Yl (Zk (Zb rfl) (Zn))) rfl) (Uaa typK [9] _ _ _ _ _ (Zla Qt Jpa _) B60.row (by decide)) ?_
       rintro v61 w61 ⟨hA61, g61⟩
       have hq61 := hA61
       obtain ⟨f61, fs61, cs61, rfl, hgo61, hf61⟩ := hq61
       refine ⟨fun _ => g61, ?_⟩
       have g := g.trans g61
       try have gm8 := gm8.trans (g61)
       try have gm10 := gm10.trans (g61)
       try have gm59 := gm59.trans (g61)
       replace B1 := B1.grow (g61)
       replace B7 := B7.grow (g61)
       replace B9 := B9.grow (g61)
       replace B60 := B60.grow (g61)
       replace B58 := B58.grow (g61)
       have gm61 := G.refl w61
       refine Wi ((g61).only _) ?_
       refine Va 6 rfl rfl ?_
       refine Xt (L' := [7, 8]) [0, 1, 1, 1, 1, 3, 1, 1, 3] rfl rfl rfl ?_
       refine Zx [_, _, _] rfl Xj Xy (Zp (Zb rfl) (Zp (Zb rfl) (Zp (Zb rfl) (Yc)))) rfl rfl ?_
       intro b63 w63 N63
       have x63_1 := N63.ne B1
       have x63_7 := N63.ne B7
       have x63_9 := N63.ne B9
       have x63_60 := N63.ne B60
       have x63_58 := N63.ne B58
       have l63 := N63.ge g
       try have l63_gm8 := N63.ge gm8
       try have l63_gm10 := N63.ge gm10
       try have l63_gm59 := N63.ge gm59
       try have l63_gm61 := N63.ge gm61
       have g := g.trans (N63.g)
       try have gm8 := gm8.trans (N63.g)
       try have gm10 := gm10.trans (N63.g)
       try have gm59 := gm59.trans (N63.g)
       try have gm61 := gm61.trans (N63.g)
       replace B1 := B1.grow (N63.g)
       replace B7 := B7.grow (N63.g)
       replace B9 := B9.grow (N63.g)
       replace B60 := B60.grow (N63.g)
       replace B58 := B58.grow (N63.g)
       have B63 := N63.blk
       refine Wi ((N63.g).only _) ?_
       refine Va 7 rfl rfl ?_
       refine Xt (L' := [8]) [0, 1, 1, 1, 1, 3, 1, 1, 3] rfl rfl rfl ?_
       refine Xe rfl (Zu Wl Yl (Zk (Zb rfl) (Zk (Zb rfl) (Zn))) rfl) (Jh t _ _ D [memK [5], fun k => typK k || memK [9] k, memK [10]] _ _ _ _ _ (hk.grow g) rfl B63.row (fun i h => by match i, h with | 0, _ => exact hA59.grow gm59 | 1, _ => exact hA61.grow gm61 | 2, _ => exact hA8.grow gm8) hc) (fun w64 g64 => ?_)
       have g := g.trans (g64)
       try have gm8 := gm8.trans (g64)
       try have gm10 := gm10.trans (g64)
       try have gm59 := gm59.trans (g64)
       try have gm61 := gm61.trans (g64)
       replace B1 := B1.grow (g64)
       replace B7 := B7.grow (g64)
       replace B9 := B9.grow (g64)
       replace B60 := B60.grow (g64)
       replace B58 := B58.grow (g64)
       replace B63 := B63.grow (g64)
       refine Wi ((g64).only _) ?_
       refine Zzb (L' := []) 8 rfl rfl rfl (fun _ => Ze (Zb rfl)) ?_
       refine Uka [(2, _, _)] (Za rfl (Zd _)) ?_
       refine Uja (hK21 _ _ ?_)
       refine Yf (Yj rfl rfl ?_)
       refine ⟨congrArg Value.bool ?_, g⟩
       unfold formB; simp only [anyK, h1, h5, h6, h7, cond_true, cond_false] <;> rfl
   (try simp only [bsimp] at h7)
   refine Zg fun K22 hK22 => ?_
   refine Zf [3, 3] ?_
   refine Zc rfl (fun _ => Yg (Zb rfl) Zl) ?_
   refine Zc rfl (fun _ => Ze (Zb rfl)) ?_
   refine Zj [(1, _, _), (2, _, _), (3, _, _), (12, _, _), (65, _, _)] (Za rfl (Za rfl (Za rfl (Za rfl (Za rfl (Zd _)))))) ?_
   refine Zh (hK22 _ _ ?_)
   refine Zz (Zb rfl) (fun h8 => ?_) (fun h8 => ?_)
   · (try simp only [bsimp] at h8)
     refine Zg fun K23 hK23 => ?_
     refine Vm [0, 1, 1, 1, 1, 3] [true, true, true, true, true, true] [0, 0, 2, 6, 15, 31] mix (by kernel_rfl) ?_
     have g := g.trans (G.drew _)
     try have gm8 := gm8.trans (G.drew _)
     try have gm10 := gm10.trans (G.drew _)
     replace B1 := B1.grow (G.drew _)
     replace B7 := B7.grow (G.drew _)
     replace B9 := B9.grow (G.drew _)
     refine Ya rfl (Yb Zr (Zb rfl) rfl (fun _ => B1.row)) ?_
     refine Zx [_] rfl Wt Qc (Zp Zl (Yc)) rfl rfl ?_
     intro b68 w68 N68
     have x68_1 := N68.ne B1
     have x68_7 := N68.ne B7
     have x68_9 := N68.ne B9
     have l68 := N68.ge g
     try have l68_gm8 := N68.ge gm8
     try have l68_gm10 := N68.ge gm10
     have g := g.trans (N68.g)
     try have gm8 := gm8.trans (N68.g)
     try have gm10 := gm10.trans (N68.g)
     replace B1 := B1.grow (N68.g)
     replace B7 := B7.grow (N68.g)
     replace B9 := B9.grow (N68.g)
     have B68 := N68.blk
     refine Yd rfl (Zu Qb Yl (Zk Yl (Zk (Zb rfl) (Zn))) rfl) (Uaa expK [9] _ _ _ _ _ (Zla Wn Uj _) B68.row (by decide)) ?_
     rintro v69 w69 ⟨hA69, g69⟩
     have hq69 := hA69
     obtain ⟨f69, fs69, cs69, rfl, hgo69, hf69⟩ := hq69
     refine ⟨fun _ => g69, ?_⟩
     have g := g.trans g69
     try have gm8 := gm8.trans (g69)
     try have gm10 := gm10.trans (g69)
     replace B1 := B1.grow (g69)
     replace B7 := B7.grow (g69)
     replace B9 := B9.grow (g69)
     replace B68 := B68.grow (g69)
     have gm69 := G.refl w69
     refine Zx [_, _] rfl Xj Xy (Zp Yl (Zp (Zb rfl) (Yc))) rfl rfl ?_
     intro b70 w70 N70
     have x70_1 := N70.ne B1
     have x70_7 := N70.ne B7
     have x70_9 := N70.ne B9
     have x70_68 := N70.ne B68
     have l70 := N70.ge g
     try have l70_gm8 := N70.ge gm8
     try have l70_gm10 := N70.ge gm10
     try have l70_gm69 := N70.ge gm69
     have g := g.trans (N70.g)
     try have gm8 := gm8.trans (N70.g)
     try have gm10 := gm10.trans (N70.g)
     try have gm69 := gm69.trans (N70.g)
     replace B1 := B1.grow (N70.g)
     replace B7 := B7.grow (N70.g)
     replace B9 := B9.grow (N70.g)
     replace B68 := B68.grow (N70.g)
     have B70 := N70.blk
     refine Xe rfl (Zu Wl Yl (Zk (Zb rfl) (Zk (Zb rfl) (Zn))) rfl) (Jh t _ _ D [typK, fun k => expK k || memK [9] k] _ _ _ _ _ (hk.grow g) rfl B70.row (fun i h => by match i, h with | 0, _ => exact Zla Qt Jpa _ | 1, _ => exact hA69.grow gm69) hc) (fun w71 g71 => ?_)
     have g := g.trans (g71)
     try have gm8 := gm8.trans (g71)
     try have gm10 := gm10.trans (g71)
     try have gm69 := gm69.trans (g71)
     replace B1 := B1.grow (g71)
     replace B7 := B7.grow (g71)
     replace B9 := B9.grow (g71)
     replace B68 := B68.grow (g71)
     replace B70 := B70.grow (g71)
     refine Zc rfl (fun _ => Ze (Zb rfl)) ?_
     refine Zj [(2, _, _)] (Za rfl (Zd _)) ?_
     refine Zh (hK23 _ _ ?_)
     refine Yf (Yj rfl rfl ?_)
     refine ⟨congrArg Value.bool ?_, g⟩
     unfold formB; simp only [anyK, h1, h5, h6, h7, h8, cond_true, cond_false] <;> rfl
   (try simp only [bsimp] at h8)
   refine Zg fun K24 hK24 => ?_
   refine Zf [3, 3] ?_
   refine Zc rfl (fun _ => Yg (Zb rfl) Zl) ?_
   refine Zc rfl (fun _ => Ze (Zb rfl)) ?_
   refine Zj [(1, _, _), (2, _, _), (3, _, _), (12, _, _), (72, _, _)] (Za rfl (Za rfl (Za rfl (Za rfl (Za rfl (Zd _)))))) ?_
   refine Zh (hK24 _ _ ?_)
   refine Zz (Zb rfl) (fun h9 => ?_) (fun h9 => ?_)
   · (try simp only [bsimp] at h9)
     refine Zg fun K25 hK25 => ?_
     refine Zf [0, 1, 3] ?_
     refine Ya rfl (Yb Zr (Zb rfl) rfl (fun _ => B1.row)) ?_
     refine Xe rfl (Zu Qs Yl (Zk (Zb rfl) (Zk Zl (Zk Yl (Zn)))) rfl) (Jqa t _ _ D stK _ _ (hk.grow g) (Zla Zqb statement_ok _) hc) (fun w75 g75 => ?_)
     have g := g.trans (g75)
     try have gm8 := gm8.trans (g75)
     try have gm10 := gm10.trans (g75)
     replace B1 := B1.grow (g75)
     replace B7 := B7.grow (g75)
     replace B9 := B9.grow (g75)
     refine Zc rfl (fun _ => Ze (Zb rfl)) ?_
     refine Zj [(2, _, _)] (Za rfl (Zd _)) ?_
     refine Zh (hK25 _ _ ?_)
     refine Yf (Yj rfl rfl ?_)
     refine ⟨congrArg Value.bool ?_, g⟩
     unfold formB; simp only [anyK, h1, h5, h6, h7, h8, h9, cond_true, cond_false] <;> rfl
   (try simp only [bsimp] at h9)
   refine Zg fun K26 hK26 => ?_
   refine Zg fun K27 hK27 => ?_
   refine Zf [3, 3] ?_
   refine Zc rfl (fun _ => Yg (Zb rfl) Zl) ?_
   refine Zc rfl (fun _ => Ze (Zb rfl)) ?_
   refine Zj [(1, _, _), (2, _, _), (3, _, _), (12, _, _), (76, _, _)] (Za rfl (Za rfl (Za rfl (Za rfl (Za rfl (Zd _)))))) ?_
   refine Zh (hK27 _ _ ?_)
   refine' Yk [(1, _, _), (2, _, _), (3, _, _), (12, _, _)] (Za rfl (Za rfl (Za rfl (Za rfl (Za rfl (Zd _)))))) rfl (fun hb10 => ?y10) (hK26 _ _ ?n10)
   case y10 =>
    refine Zg fun K28 hK28 => ?_
    refine Zf [3, 3] ?_
    refine Zc rfl (fun _ => Yg (Zb rfl) Zl) ?_
    refine Zc rfl (fun _ => Ze (Zb rfl)) ?_
    refine Zj [(1, _, _), (2, _, _), (3, _, _), (12, _, _), (76, _, _)] (Za rfl (Za rfl (Za rfl (Za rfl (Za rfl (Zd _)))))) ?_
    refine Zh (hK28 _ _ ?_)
    refine' Yk [(1, _, _), (2, _, _), (3, _, _), (12, _, _)] (Za rfl (Za rfl (Za rfl (Za rfl (Za rfl (Zd _)))))) rfl (fun hb11 => ?y11) (fun a ha => ⟨ha, rfl⟩)
    case y11 =>
     refine Zg fun K29 hK29 => ?_
     refine Zf [3, 3] ?_
     refine Zc rfl (fun _ => Yg (Zb rfl) Zl) ?_
     refine Zc rfl (fun _ => Ze (Zb rfl)) ?_
     refine Zj [(1, _, _), (2, _, _), (3, _, _), (12, _, _), (76, _, _)] (Za rfl (Za rfl (Za rfl (Za rfl (Za rfl (Zd _)))))) ?_
     refine Zh (hK29 _ _ ?_)
     refine' Yk [(1, _, _), (2, _, _), (3, _, _), (12, _, _)] (Za rfl (Za rfl (Za rfl (Za rfl (Za rfl (Zd _)))))) rfl (fun hb12 => ?y12) (fun a ha => ⟨ha, rfl⟩)
     case y12 =>
      refine Zg fun K30 hK30 => ?_
      refine Zf [3, 3] ?_
      refine Zc rfl (fun _ => Yg (Zb rfl) Zl) ?_
      refine Zc rfl (fun _ => Ze (Zb rfl)) ?_
      refine Zj [(1, _, _), (2, _, _), (3, _, _), (12, _, _), (76, _, _)] (Za rfl (Za rfl (Za rfl (Za rfl (Za rfl (Zd _)))))) ?_
      refine Zh (hK30 _ _ ?_)
      refine' Yk [(1, _, _), (2, _, _), (3, _, _), (12, _, _)] (Za rfl (Za rfl (Za rfl (Za rfl (Za rfl (Zd _)))))) rfl (fun hb13 => ?y13) (fun a ha => ⟨ha, rfl⟩)
      case y13 =>
       refine Zg fun K31 hK31 => ?_
       refine Zf [3, 3] ?_
       refine Zc rfl (fun _ => Yg (Zb rfl) Zl) ?_
       refine Zc rfl (fun _ => Ze (Zb rfl)) ?_
       refine Zj [(1, _, _), (2, _, _), (3, _, _), (12, _, _), (76, _, _)] (Za rfl (Za rfl (Za rfl (Za rfl (Za rfl (Zd _)))))) ?_
       refine Zh (hK31 _ _ ?_)
       refine' Yk [(1, _, _), (2, _, _), (3, _, _), (12, _, _)] (Za rfl (Za rfl (Za rfl (Za rfl (Za rfl (Zd _)))))) rfl (fun hb14 => ?y14) (fun a ha => ⟨ha, rfl⟩)
       case y14 =>
        refine Zg fun K32 hK32 => ?_
        refine Zf [3, 3] ?_
        refine Zc rfl (fun _ => Yg (Zb rfl) Zl) ?_
        refine Zc rfl (fun _ => Ze (Zb rfl)) ?_
        refine Zj [(1, _, _), (2, _, _), (3, _, _), (12, _, _), (76, _, _)] (Za rfl (Za rfl (Za rfl (Za rfl (Za rfl (Zd _)))))) ?_
        refine Zh (hK32 _ _ ?_)
        refine' Yk [(1, _, _), (2, _, _), (3, _, _), (12, _, _)] (Za rfl (Za rfl (Za rfl (Za rfl (Za rfl (Zd _)))))) rfl (fun hb15 => ?y15) (fun a ha => ⟨ha, rfl⟩)
        case y15 =>
         refine Zg fun K33 hK33 => ?_
         refine Zf [3, 3] ?_
         refine Zc rfl (fun _ => Yg (Zb rfl) Zl) ?_
         refine Zc rfl (fun _ => Ze (Zb rfl)) ?_
         refine Zj [(1, _, _), (2, _, _), (3, _, _), (12, _, _), (76, _, _)] (Za rfl (Za rfl (Za rfl (Za rfl (Za rfl (Zd _)))))) ?_
         refine Zh (hK33 _ _ ?_)
         refine' Yk [(1, _, _), (2, _, _), (3, _, _), (12, _, _)] (Za rfl (Za rfl (Za rfl (Za rfl (Za rfl (Zd _)))))) rfl (fun hb16 => ?y16) (fun a ha => ⟨ha, rfl⟩)
         case y16 =>
          refine Zg fun K34 hK34 => ?_
          refine Zf [3, 3] ?_
          refine Zc rfl (fun _ => Yg (Zb rfl) Zl) ?_
          refine Zc rfl (fun _ => Ze (Zb rfl)) ?_
          refine Zj [(1, _, _), (2, _, _), (3, _, _), (12, _, _), (76, _, _)] (Za rfl (Za rfl (Za rfl (Za rfl (Za rfl (Zd _)))))) ?_
          refine Zh (hK34 _ _ ?_)
          refine' Yk [(1, _, _), (2, _, _), (3, _, _), (12, _, _)] (Za rfl (Za rfl (Za rfl (Za rfl (Za rfl (Zd _)))))) rfl (fun hb17 => ?y17) (fun a ha => ⟨ha, rfl⟩)
          case y17 =>
           refine Zf [3, 3] ?_
           refine Zc rfl (fun _ => Yg (Zb rfl) Zl) ?_
           refine Zc rfl (fun _ => Ze (Zb rfl)) ?_
           refine Zj [(76, _, _), (1, _, _), (2, _, _), (3, _, _), (12, _, _)] (Za rfl (Za rfl (Za rfl (Za rfl (Za rfl (Zd _)))))) ?_
           exact Zh (fun a ha => ⟨ha, rfl⟩)
   case n10 =>
    refine Zz (Zb rfl) (fun h18 => ?_) (fun h18 => ?_)
    · (try simp only [bsimp] at h18)
      refine Zg fun K35 hK35 => ?_
      refine Zf [0, 1, 1, 3] ?_
      refine Ya rfl (Yb Zr (Zb rfl) rfl (fun _ => B1.row)) ?_
      refine Zx [_] rfl Xj Xy (Zp Yl (Yc)) rfl rfl ?_
      intro b87 w87 N87
      have x87_1 := N87.ne B1
      have x87_7 := N87.ne B7
      have x87_9 := N87.ne B9
      have l87 := N87.ge g
      try have l87_gm8 := N87.ge gm8
      try have l87_gm10 := N87.ge gm10
      have g := g.trans (N87.g)
      try have gm8 := gm8.trans (N87.g)
      try have gm10 := gm10.trans (N87.g)
      replace B1 := B1.grow (N87.g)
      replace B7 := B7.grow (N87.g)
      replace B9 := B9.grow (N87.g)
      have B87 := N87.blk
      refine Xe rfl (Zu Wl Yl (Zk (Zb rfl) (Zk (Zb rfl) (Zn))) rfl) (Jh t _ _ D [expK] _ _ _ _ _ (hk.grow g) rfl B87.row (fun i h => by match i, h with | 0, _ => exact Zla Wn Uj _) hc) (fun w88 g88 => ?_)
      have g := g.trans (g88)
      try have gm8 := gm8.trans (g88)
      try have gm10 := gm10.trans (g88)
      replace B1 := B1.grow (g88)
      replace B7 := B7.grow (g88)
      replace B9 := B9.grow (g88)
      replace B87 := B87.grow (g88)
      refine Zc rfl (fun _ => Ze (Zb rfl)) ?_
      refine Zj [(2, _, _)] (Za rfl (Zd _)) ?_
      refine Zh (hK35 _ _ ?_)
      refine Yf (Yj rfl rfl ?_)
      refine ⟨congrArg Value.bool ?_, g⟩
      unfold formB; simp only [anyK, h1, h5, h6, h7, h8, h9, h18, cond_true, cond_false] <;> rfl
    (try simp only [bsimp] at h18)
    refine Zg fun K36 hK36 => ?_
    refine Zg fun K37 hK37 => ?_
    refine Zf [3, 3] ?_
    refine Zc rfl (fun _ => Yg (Zb rfl) Zl) ?_
    refine Zc rfl (fun _ => Ze (Zb rfl)) ?_
    refine Zj [(1, _, _), (2, _, _), (3, _, _), (12, _, _), (89, _, _)] (Za rfl (Za rfl (Za rfl (Za rfl (Za rfl (Zd _)))))) ?_
    refine Zh (hK37 _ _ ?_)
    refine' Yk [(1, _, _), (2, _, _), (3, _, _), (12, _, _)] (Za rfl (Za rfl (Za rfl (Za rfl (Za rfl (Zd _)))))) rfl (fun hb19 => ?y19) (hK36 _ _ ?n19)
    case y19 =>
     refine Zg fun K38 hK38 => ?_
     refine Zf [3, 3] ?_
     refine Zc rfl (fun _ => Yg (Zb rfl) Zl) ?_
     refine Zc rfl (fun _ => Ze (Zb rfl)) ?_
     refine Zj [(1, _, _), (2, _, _), (3, _, _), (12, _, _), (89, _, _)] (Za rfl (Za rfl (Za rfl (Za rfl (Za rfl (Zd _)))))) ?_
     refine Zh (hK38 _ _ ?_)
     refine' Yk [(1, _, _), (2, _, _), (3, _, _), (12, _, _)] (Za rfl (Za rfl (Za rfl (Za rfl (Za rfl (Zd _)))))) rfl (fun hb20 => ?y20) (fun a ha => ⟨ha, rfl⟩)
     case y20 =>
      refine Zg fun K39 hK39 => ?_
      refine Zf [3, 3] ?_
      refine Zc rfl (fun _ => Yg (Zb rfl) Zl) ?_
      refine Zc rfl (fun _ => Ze (Zb rfl)) ?_
      refine Zj [(1, _, _), (2, _, _), (3, _, _), (12, _, _), (89, _, _)] (Za rfl (Za rfl (Za rfl (Za rfl (Za rfl (Zd _)))))) ?_
      refine Zh (hK39 _ _ ?_)
      refine' Yk [(1, _, _), (2, _, _), (3, _, _), (12, _, _)] (Za rfl (Za rfl (Za rfl (Za rfl (Za rfl (Zd _)))))) rfl (fun hb21 => ?y21) (fun a ha => ⟨ha, rfl⟩)
      case y21 =>
       refine Zf [3, 3] ?_
       refine Zc rfl (fun _ => Yg (Zb rfl) Zl) ?_
       refine Zc rfl (fun _ => Ze (Zb rfl)) ?_
       refine Zj [(89, _, _), (1, _, _), (2, _, _), (3, _, _), (12, _, _)] (Za rfl (Za rfl (Za rfl (Za rfl (Za rfl (Zd _)))))) ?_
       exact Zh (fun a ha => ⟨ha, rfl⟩)
    case n19 =>
     refine Zz (Zb rfl) (fun h22 => ?_) (fun h22 => ?_)
     · (try simp only [bsimp] at h22)
       refine Zg fun K40 hK40 => ?_
       refine Zf [0, 1, 1, 3] ?_
       refine Ya rfl (Yb Zr (Zb rfl) rfl (fun _ => B1.row)) ?_
       refine Zx [_, _] rfl Xj Xy (Zp Yl (Zp Yl (Yc))) rfl rfl ?_
       intro b95 w95 N95
       have x95_1 := N95.ne B1
       have x95_7 := N95.ne B7
       have x95_9 := N95.ne B9
       have l95 := N95.ge g
       try have l95_gm8 := N95.ge gm8
       try have l95_gm10 := N95.ge gm10
       have g := g.trans (N95.g)
       try have gm8 := gm8.trans (N95.g)
       try have gm10 := gm10.trans (N95.g)
       replace B1 := B1.grow (N95.g)
       replace B7 := B7.grow (N95.g)
       replace B9 := B9.grow (N95.g)
       have B95 := N95.blk
       refine Xe rfl (Zu Wl Yl (Zk (Zb rfl) (Zk (Zb rfl) (Zn))) rfl) (Jh t _ _ D [expK, expK] _ _ _ _ _ (hk.grow g) rfl B95.row (fun i h => by match i, h with | 0, _ => exact Zla Wn Uj _ | 1, _ => exact Zla Wn Uj _) hc) (fun w96 g96 => ?_)
       have g := g.trans (g96)
       try have gm8 := gm8.trans (g96)
       try have gm10 := gm10.trans (g96)
       replace B1 := B1.grow (g96)
       replace B7 := B7.grow (g96)
       replace B9 := B9.grow (g96)
       replace B95 := B95.grow (g96)
       refine Zc rfl (fun _ => Ze (Zb rfl)) ?_
       refine Zj [(2, _, _)] (Za rfl (Zd _)) ?_
       refine Zh (hK40 _ _ ?_)
       refine Yf (Yj rfl rfl ?_)
       refine ⟨congrArg Value.bool ?_, g⟩
       unfold formB; simp only [anyK, h1, h5, h6, h7, h8, h9, h18, h22, cond_true, cond_false] <;> rfl
     (try simp only [bsimp] at h22)
     refine Zg fun K41 hK41 => ?_
     refine Zf [3, 3] ?_
     refine Zc rfl (fun _ => Yg (Zb rfl) Zl) ?_
     refine Zc rfl (fun _ => Ze (Zb rfl)) ?_
     refine Zj [(1, _, _), (2, _, _), (3, _, _), (12, _, _), (97, _, _)] (Za rfl (Za rfl (Za rfl (Za rfl (Za rfl (Zd _)))))) ?_
     refine Zh (hK41 _ _ ?_)
     refine Zz (Zb rfl) (fun h23 => ?_) (fun h23 => ?_)
     · (try simp only [bsimp] at h23)
       refine Zg fun K42 hK42 => ?_
       refine Vm [0, 1, 1, 1, 1, 3] [true, true, true, true, true, true] [0, 0, 2, 6, 15, 31] mix (by kernel_rfl) ?_
       have g := g.trans (G.drew _)
       try have gm8 := gm8.trans (G.drew _)
       try have gm10 := gm10.trans (G.drew _)
       replace B1 := B1.grow (G.drew _)
       replace B7 := B7.grow (G.drew _)
       replace B9 := B9.grow (G.drew _)
       refine Ya rfl (Yb Zr (Zb rfl) rfl (fun _ => B1.row)) ?_
       refine Zx [_, _] rfl Wt Qc (Zp Zl (Zp Zl (Yc))) rfl rfl ?_
       intro b100 w100 N100
       have x100_1 := N100.ne B1
       have x100_7 := N100.ne B7
       have x100_9 := N100.ne B9
       have l100 := N100.ge g
       try have l100_gm8 := N100.ge gm8
       try have l100_gm10 := N100.ge gm10
       have g := g.trans (N100.g)
       try have gm8 := gm8.trans (N100.g)
       try have gm10 := gm10.trans (N100.g)
       replace B1 := B1.grow (N100.g)
       replace B7 := B7.grow (N100.g)
       replace B9 := B9.grow (N100.g)
       have B100 := N100.blk
       refine Yd rfl (Zu Wj Yl (Zk (Zb rfl) (Zn)) rfl) (Qx [30, 33] _ _ _ _ B100.row (by decide)) ?_
       rintro v101 w101 ⟨hA101, g101⟩
       have hq101 := hA101
       obtain ⟨f101, fs101, cs101, rfl, hgo101, hf101⟩ := hq101
       refine ⟨fun _ => g101, ?_⟩
       have g := g.trans g101
       try have gm8 := gm8.trans (g101)
       try have gm10 := gm10.trans (g101)
       replace B1 := B1.grow (g101)
       replace B7 := B7.grow (g101)
       replace B9 := B9.grow (g101)
       replace B100 := B100.grow (g101)
       have gm101 := G.refl w101
       refine Zx [_] rfl Xj Xy (Zp (Zb rfl) (Yc)) rfl rfl ?_
       intro b102 w102 N102
       have x102_1 := N102.ne B1
       have x102_7 := N102.ne B7
       have x102_9 := N102.ne B9
       have x102_100 := N102.ne B100
       have l102 := N102.ge g
       try have l102_gm8 := N102.ge gm8
       try have l102_gm10 := N102.ge gm10
       try have l102_gm101 := N102.ge gm101
       have g := g.trans (N102.g)
       try have gm8 := gm8.trans (N102.g)
       try have gm10 := gm10.trans (N102.g)
       try have gm101 := gm101.trans (N102.g)
       replace B1 := B1.grow (N102.g)
       replace B7 := B7.grow (N102.g)
       replace B9 := B9.grow (N102.g)
       replace B100 := B100.grow (N102.g)
       have B102 := N102.blk
       refine Xe rfl (Zu Wl Yl (Zk (Zb rfl) (Zk (Zb rfl) (Zn))) rfl) (Jh t _ _ D [memK [30, 33]] _ _ _ _ _ (hk.grow g) rfl B102.row (fun i h => by match i, h with | 0, _ => exact hA101.grow gm101) hc) (fun w103 g103 => ?_)
       have g := g.trans (g103)
       try have gm8 := gm8.trans (g103)
       try have gm10 := gm10.trans (g103)
       try have gm101 := gm101.trans (g103)
       replace B1 := B1.grow (g103)
       replace B7 := B7.grow (g103)
       replace B9 := B9.grow (g103)
       replace B100 := B100.grow (g103)
       replace B102 := B102.grow (g103)
       refine Zc rfl (fun _ => Ze (Zb rfl)) ?_
       refine Zj [(2, _, _)] (Za rfl (Zd _)) ?_
       refine Zh (hK42 _ _ ?_)
       refine Yf (Yj rfl rfl ?_)
       refine ⟨congrArg Value.bool ?_, g⟩
       unfold formB; simp only [anyK, h1, h5, h6, h7, h8, h9, h18, h22, h23, cond_true, cond_false] <;> rfl
     (try simp only [bsimp] at h23)
     refine Zg fun K43 hK43 => ?_
     refine Zg fun K44 hK44 => ?_
     refine Zf [3, 3] ?_
     refine Zc rfl (fun _ => Yg (Zb rfl) Zl) ?_
     refine Zc rfl (fun _ => Ze (Zb rfl)) ?_
     refine Zj [(1, _, _), (2, _, _), (3, _, _), (12, _, _), (104, _, _)] (Za rfl (Za rfl (Za rfl (Za rfl (Za rfl (Zd _)))))) ?_
     refine Zh (hK44 _ _ ?_)
     refine' Yk [(1, _, _), (2, _, _), (3, _, _), (12, _, _)] (Za rfl (Za rfl (Za rfl (Za rfl (Za rfl (Zd _)))))) rfl (fun hb24 => ?y24) (hK43 _ _ ?n24)
     case y24 =>
      refine Zf [3, 3] ?_
      refine Zc rfl (fun _ => Yg (Zb rfl) Zl) ?_
      refine Zc rfl (fun _ => Ze (Zb rfl)) ?_
      refine Zj [(104, _, _), (1, _, _), (2, _, _), (3, _, _), (12, _, _)] (Za rfl (Za rfl (Za rfl (Za rfl (Za rfl (Zd _)))))) ?_
      exact Zh (fun a ha => ⟨ha, rfl⟩)
     case n24 =>
      refine Zz (Zb rfl) (fun h25 => ?_) (fun h25 => ?_)
      · (try simp only [bsimp] at h25)
        refine Zg fun K45 hK45 => ?_
        refine Vm [0, 1, 1, 1, 1, 3] [true, true, true, true, true, true] [0, 0, 2, 6, 15, 31] mix (by kernel_rfl) ?_
        have g := g.trans (G.drew _)
        try have gm8 := gm8.trans (G.drew _)
        try have gm10 := gm10.trans (G.drew _)
        replace B1 := B1.grow (G.drew _)
        replace B7 := B7.grow (G.drew _)
        replace B9 := B9.grow (G.drew _)
        refine Ya rfl (Yb Zr (Zb rfl) rfl (fun _ => B1.row)) ?_
        refine Zx [_] rfl Wt Qc (Zp Zl (Yc)) rfl rfl ?_
        intro b108 w108 N108
        have x108_1 := N108.ne B1
        have x108_7 := N108.ne B7
        have x108_9 := N108.ne B9
        have l108 := N108.ge g
        try have l108_gm8 := N108.ge gm8
        try have l108_gm10 := N108.ge gm10
        have g := g.trans (N108.g)
        try have gm8 := gm8.trans (N108.g)
        try have gm10 := gm10.trans (N108.g)
        replace B1 := B1.grow (N108.g)
        replace B7 := B7.grow (N108.g)
        replace B9 := B9.grow (N108.g)
        have B108 := N108.blk
        refine Yd rfl (Zu Wj Yl (Zk (Zb rfl) (Zn)) rfl) (Qx [30] _ _ _ _ B108.row (by decide)) ?_
        rintro v109 w109 ⟨hA109, g109⟩
        have hq109 := hA109
        obtain ⟨f109, fs109, cs109, rfl, hgo109, hf109⟩ := hq109
        refine ⟨fun _ => g109, ?_⟩
        have g := g.trans g109
        try have gm8 := gm8.trans (g109)
        try have gm10 := gm10.trans (g109)
        replace B1 := B1.grow (g109)
        replace B7 := B7.grow (g109)
        replace B9 := B9.grow (g109)
        replace B108 := B108.grow (g109)
        have gm109 := G.refl w109
        refine Zx [_] rfl Xj Xy (Zp (Zb rfl) (Yc)) rfl rfl ?_
        intro b110 w110 N110
        have x110_1 := N110.ne B1
        have x110_7 := N110.ne B7
        have x110_9 := N110.ne B9
        have x110_108 := N110.ne B108
        have l110 := N110.ge g
        try have l110_gm8 := N110.ge gm8
        try have l110_gm10 := N110.ge gm10
        try have l110_gm109 := N110.ge gm109
        have g := g.trans (N110.g)
        try have gm8 := gm8.trans (N110.g)
        try have gm10 := gm10.trans (N110.g)
        try have gm109 := gm109.trans (N110.g)
        replace B1 := B1.grow (N110.g)
        replace B7 := B7.grow (N110.g)
        replace B9 := B9.grow (N110.g)
        replace B108 := B108.grow (N110.g)
        have B110 := N110.blk
        refine Xe rfl (Zu Wl Yl (Zk (Zb rfl) (Zk (Zb rfl) (Zn))) rfl) (Jh t _ _ D [memK [30]] _ _ _ _ _ (hk.grow g) rfl B110.row (fun i h => by match i, h with | 0, _ => exact hA109.grow gm109) hc) (fun w111 g111 => ?_)
        have g := g.trans (g111)
        try have gm8 := gm8.trans (g111)
        try have gm10 := gm10.trans (g111)
        try have gm109 := gm109.trans (g111)
        replace B1 := B1.grow (g111)
        replace B7 := B7.grow (g111)
        replace B9 := B9.grow (g111)
        replace B108 := B108.grow (g111)
        replace B110 := B110.grow (g111)
        refine Zc rfl (fun _ => Ze (Zb rfl)) ?_
        refine Zj [(2, _, _)] (Za rfl (Zd _)) ?_
        refine Zh (hK45 _ _ ?_)
        refine Yf (Yj rfl rfl ?_)
        refine ⟨congrArg Value.bool ?_, g⟩
        unfold formB; simp only [anyK, h1, h5, h6, h7, h8, h9, h18, h22, h23, h25, cond_true, cond_false] <;> rfl
      (try simp only [bsimp] at h25)
      refine Zg fun K46 hK46 => ?_
      refine Zf [3, 3] ?_
      refine Zc rfl (fun _ => Yg (Zb rfl) Zl) ?_
      refine Zc rfl (fun _ => Ze (Zb rfl)) ?_
      refine Zj [(1, _, _), (2, _, _), (3, _, _), (12, _, _), (112, _, _)] (Za rfl (Za rfl (Za rfl (Za rfl (Za rfl (Zd _)))))) ?_
      refine Zh (hK46 _ _ ?_)
      refine Zz (Zb rfl) (fun h26 => ?_) (fun h26 => ?_)
      · (try simp only [bsimp] at h26)
        refine Zg fun K47 hK47 => ?_
        refine Vm [0, 3, 1, 1, 1, 1, 3] [true, true, true, true, true, true, true] [0, 0, 0, 4, 14, 31, 63] mix (by kernel_rfl) ?_
        have g := g.trans (G.drew _)
        try have gm8 := gm8.trans (G.drew _)
        try have gm10 := gm10.trans (G.drew _)
        replace B1 := B1.grow (G.drew _)
        replace B7 := B7.grow (G.drew _)
        replace B9 := B9.grow (G.drew _)
        refine Ya rfl (Yb Zr (Zb rfl) rfl (fun _ => B1.row)) ?_
        refine Zc rfl (fun _ => Zi (Zb rfl)) ?_
        refine Zx [_, _, _] rfl Wt Qc (Zp Zl (Zp Zl (Zp Zl (Yc)))) rfl rfl ?_
        intro b116 w116 N116
        have x116_1 := N116.ne B1
        have x116_7 := N116.ne B7
        have x116_9 := N116.ne B9
        have l116 := N116.ge g
        try have l116_gm8 := N116.ge gm8
        try have l116_gm10 := N116.ge gm10
        have g := g.trans (N116.g)
        try have gm8 := gm8.trans (N116.g)
        try have gm10 := gm10.trans (N116.g)
        replace B1 := B1.grow (N116.g)
        replace B7 := B7.grow (N116.g)
        replace B9 := B9.grow (N116.g)
        have B116 := N116.blk
        refine Yd rfl (Zu Wj Yl (Zk (Zb rfl) (Zn)) rfl) (Qx [10, 18, 9] _ _ _ _ B116.row (by decide)) ?_
        rintro v117 w117 ⟨hA117, g117⟩
        have hq117 := hA117
        obtain ⟨f117, fs117, cs117, rfl, hgo117, hf117⟩ := hq117
        refine ⟨fun _ => g117, ?_⟩
        have g := g.trans g117
        try have gm8 := gm8.trans (g117)
        try have gm10 := gm10.trans (g117)
        replace B1 := B1.grow (g117)
        replace B7 := B7.grow (g117)
        replace B9 := B9.grow (g117)
        replace B116 := B116.grow (g117)
        have gm117 := G.refl w117
        refine Zx [_, _, _] rfl Xj Xy (Zp Yl (Zp (Zb rfl) (Zp (Zb rfl) (Yc)))) rfl rfl ?_
        intro b118 w118 N118
        have x118_1 := N118.ne B1
        have x118_7 := N118.ne B7
        have x118_9 := N118.ne B9
        have x118_116 := N118.ne B116
        have l118 := N118.ge g
        try have l118_gm8 := N118.ge gm8
        try have l118_gm10 := N118.ge gm10
        try have l118_gm117 := N118.ge gm117
        have g := g.trans (N118.g)
        try have gm8 := gm8.trans (N118.g)
        try have gm10 := gm10.trans (N118.g)
        try have gm117 := gm117.trans (N118.g)
        replace B1 := B1.grow (N118.g)
        replace B7 := B7.grow (N118.g)
        replace B9 := B9.grow (N118.g)
        replace B116 := B116.grow (N118.g)
        have B118 := N118.blk
        refine Xe rfl (Zu Wl Yl (Zk (Zb rfl) (Zk (Zb rfl) (Zn))) rfl) (Jh t _ _ D [expK, memK [10], memK [10, 18, 9]] _ _ _ _ _ (hk.grow g) rfl B118.row (fun i h => by match i, h with | 0, _ => exact Zla Wn Uj _ | 1, _ => exact hA8.grow gm8 | 2, _ => exact hA117.grow gm117) hc) (fun w119 g119 => ?_)
        have g := g.trans (g119)
        try have gm8 := gm8.trans (g119)
        try have gm10 := gm10.trans (g119)
        try have gm117 := gm117.trans (g119)
        replace B1 := B1.grow (g119)
        replace B7 := B7.grow (g119)
        replace B9 := B9.grow (g119)
        replace B116 := B116.grow (g119)
        replace B118 := B118.grow (g119)
        refine Zc rfl (fun _ => Ze (Zb rfl)) ?_
        refine Zj [(2, _, _)] (Za rfl (Zd _)) ?_
        refine Zh (hK47 _ _ ?_)
        refine Yf (Yj rfl rfl ?_)
        refine ⟨congrArg Value.bool ?_, g⟩
        unfold formB; simp only [anyK, h1, h5, h6, h7, h8, h9, h18, h22, h23, h25, h26, cond_true, cond_false] <;> rfl
      (try simp only [bsimp] at h26)
      refine Zg fun K48 hK48 => ?_
      refine Zf [3, 3] ?_
      refine Zc rfl (fun _ => Yg (Zb rfl) Zl) ?_
      refine Zc rfl (fun _ => Ze (Zb rfl)) ?_
      refine Zj [(1, _, _), (2, _, _), (3, _, _), (12, _, _), (120, _, _)] (Za rfl (Za rfl (Za rfl (Za rfl (Za rfl (Zd _)))))) ?_
      refine Zh (hK48 _ _ ?_)
      refine Zz (Zb rfl) (fun h27 => ?_) (fun h27 => ?_)
      · (try simp only [bsimp] at h27)
        refine Zg fun K49 hK49 => ?_
        refine Vm [0, 1, 1, 3, 1, 1, 3] [true, true, true, false, true, true, true] [0, 0, 2, 0, 14, 31, 63] mix (by kernel_rfl) ?_
        have g := g.trans (G.drew _)
        try have gm8 := gm8.trans (G.drew _)
        try have gm10 := gm10.trans (G.drew _)
        replace B1 := B1.grow (G.drew _)
        replace B7 := B7.grow (G.drew _)
        replace B9 := B9.grow (G.drew _)
        refine Ya rfl (Yb Zr (Zb rfl) rfl (fun _ => B1.row)) ?_
        refine Zx [_] rfl Wt Qc (Zp Zl (Yc)) rfl rfl ?_
        intro b123 w123 N123
        have x123_1 := N123.ne B1
        have x123_7 := N123.ne B7
        have x123_9 := N123.ne B9
        have l123 := N123.ge g
        try have l123_gm8 := N123.ge gm8
        try have l123_gm10 := N123.ge gm10
        have g := g.trans (N123.g)
        try have gm8 := gm8.trans (N123.g)
        try have gm10 := gm10.trans (N123.g)
        replace B1 := B1.grow (N123.g)
        replace B7 := B7.grow (N123.g)
        replace B9 := B9.grow (N123.g)
        have B123 := N123.blk
        refine Yd rfl (Zu Qb Yl (Zk Yl (Zk (Zb rfl) (Zn))) rfl) (Uaa expK [9] _ _ _ _ _ (Zla Wn Uj _) B123.row (by decide)) ?_
        rintro v124 w124 ⟨hA124, g124⟩
        have hq124 := hA124
        obtain ⟨f124, fs124, cs124, rfl, hgo124, hf124⟩ := hq124
        refine ⟨fun _ => g124, ?_⟩
        have g := g.trans g124
        try have gm8 := gm8.trans (g124)
        try have gm10 := gm10.trans (g124)
        replace B1 := B1.grow (g124)
        replace B7 := B7.grow (g124)
        replace B9 := B9.grow (g124)
        replace B123 := B123.grow (g124)
        have gm124 := G.refl w124
        refine Zc rfl (fun _ => Zi (Zb rfl)) ?_
        refine Zx [_, _] rfl Xj Xy (Zp (Zb rfl) (Zp (Zb rfl) (Yc))) rfl rfl ?_
        intro b126 w126 N126
        have x126_1 := N126.ne B1
        have x126_7 := N126.ne B7
        have x126_9 := N126.ne B9
        have x126_123 := N126.ne B123
        have l126 := N126.ge g
        try have l126_gm8 := N126.ge gm8
        try have l126_gm10 := N126.ge gm10
        try have l126_gm124 := N126.ge gm124
        have g := g.trans (N126.g)
        try have gm8 := gm8.trans (N126.g)
        try have gm10 := gm10.trans (N126.g)
        try have gm124 := gm124.trans (N126.g)
        replace B1 := B1.grow (N126.g)
        replace B7 := B7.grow (N126.g)
        replace B9 := B9.grow (N126.g)
        replace B123 := B123.grow (N126.g)
        have B126 := N126.blk
        refine Xe rfl (Zu Wl Yl (Zk (Zb rfl) (Zk (Zb rfl) (Zn))) rfl) (Jh t _ _ D [fun k => expK k || memK [9] k, memK [10]] _ _ _ _ _ (hk.grow g) rfl B126.row (fun i h => by match i, h with | 0, _ => exact hA124.grow gm124 | 1, _ => exact hA8.grow gm8) hc) (fun w127 g127 => ?_)
        have g := g.trans (g127)
        try have gm8 := gm8.trans (g127)
        try have gm10 := gm10.trans (g127)
        try have gm124 := gm124.trans (g127)
        replace B1 := B1.grow (g127)
        replace B7 := B7.grow (g127)
        replace B9 := B9.grow (g127)
        replace B123 := B123.grow (g127)
        replace B126 := B126.grow (g127)
        refine Zc rfl (fun _ => Ze (Zb rfl)) ?_
        refine Zj [(2, _, _)] (Za rfl (Zd _)) ?_
        refine Zh (hK49 _ _ ?_)
        refine Yf (Yj rfl rfl ?_)
        refine ⟨congrArg Value.bool ?_, g⟩
        unfold formB; simp only [anyK, h1, h5, h6, h7, h8, h9, h18, h22, h23, h25, h26, h27, cond_true, cond_false] <;> rfl
      (try simp only [bsimp] at h27)
      refine Zg fun K50 hK50 => ?_
      refine Zf [3, 3] ?_
      refine Zc rfl (fun _ => Yg (Zb rfl) Zl) ?_
      refine Zc rfl (fun _ => Ze (Zb rfl)) ?_
      refine Zj [(1, _, _), (2, _, _), (3, _, _), (12, _, _), (128, _, _)] (Za rfl (Za rfl (Za rfl (Za rfl (Za rfl (Zd _)))))) ?_
      refine Zh (hK50 _ _ ?_)
      refine Zz (Zb rfl) (fun h28 => ?_) (fun h28 => ?_)
      · (try simp only [bsimp] at h28)
        refine Zg fun K51 hK51 => ?_
        refine Zf [3, 0, 3, 3, 3, 0, 1, 1, 3, 3] ?_
        refine Zc rfl (fun _ => Zm Zv (Zb rfl)) ?_
        refine Ya rfl (Zt Zq (Zb rfl) (fun _ => B1.at_ rfl)) ?_
        refine Zc rfl (fun _ => Xx Zo (Zb rfl)) ?_
        refine Zc rfl (fun _ => Yg (Zb rfl) Zl) ?_
        refine Zc rfl (fun _ => Zi (Zb rfl)) ?_
        refine Yr rfl rfl rfl (Yb Zr (Zb rfl) rfl (fun _ => B1.row)) ?_
        refine Yec [_] rfl rfl rfl Xj Xy (Zp Yl (Yc)) rfl rfl ?_
        intro b136 w136 g136 hB136
        have g := g.trans (g136)
        try have gm8 := gm8.trans (g136)
        try have gm10 := gm10.trans (g136)
        replace B1 := B1.grow (g136)
        replace B7 := B7.grow (g136)
        replace B9 := B9.grow (g136)
        refine Xb rfl rfl rfl (fun _ => (Zu Wl Yl (Zk (Zy rfl id) (Zk (Zy rfl id) (Zn))) rfl)) (fun hc => Jh t _ _ D [expK] _ _ _ _ _ (hk.grow g) rfl (hB136 hc).row (fun i h => by match i, h with | 0, _ => exact Zla Wn Uj _) hc0) (fun w137 g137 => ?_)
        have g := g.trans (g137)
        try have gm8 := gm8.trans (g137)
        try have gm10 := gm10.trans (g137)
        replace B1 := B1.grow (g137)
        replace B7 := B7.grow (g137)
        replace B9 := B9.grow (g137)
        refine Zc rfl (fun _ => Yz (Zb rfl) (Zy rfl id)) ?_
        refine Zc rfl (fun _ => Ze (Zb rfl)) ?_
        refine Zj [(2, _, _)] (Za rfl (Zd _)) ?_
        refine Zh (hK51 _ _ ?_)
        refine Yf (Yj rfl rfl ?_)
        refine ⟨congrArg Value.bool ?_, g⟩
        unfold formB; simp only [anyK, h1, h5, h6, h7, h8, h9, h18, h22, h23, h25, h26, h27, h28, cond_true, cond_false] <;> rfl
      (try simp only [bsimp] at h28)
      refine Zg fun K52 hK52 => ?_
      refine Zf [3, 3] ?_
      refine Zc rfl (fun _ => Yg (Zb rfl) Zl) ?_
      refine Zc rfl (fun _ => Ze (Zb rfl)) ?_
      refine Zj [(1, _, _), (2, _, _), (3, _, _), (12, _, _), (139, _, _)] (Za rfl (Za rfl (Za rfl (Za rfl (Za rfl (Zd _)))))) ?_
      refine Zh (hK52 _ _ ?_)
      refine Zz (Zb rfl) (fun h29 => ?_) (fun h29 => ?_)
      · (try simp only [bsimp] at h29)
        refine Zg fun K53 hK53 => ?_
        refine Vm [0, 1, 1, 1, 3] [true, true, true, true, true] [0, 0, 2, 7, 15] mix (by kernel_rfl) ?_
        have g := g.trans (G.drew _)
        try have gm8 := gm8.trans (G.drew _)
        try have gm10 := gm10.trans (G.drew _)
        replace B1 := B1.grow (G.drew _)
        replace B7 := B7.grow (G.drew _)
        replace B9 := B9.grow (G.drew _)
        refine Ya rfl (Yb Zr (Zb rfl) rfl (fun _ => B1.row)) ?_
        refine Zx [_] rfl Wt Qc (Zp Zl (Yc)) rfl rfl ?_
        intro b142 w142 N142
        have x142_1 := N142.ne B1
        have x142_7 := N142.ne B7
        have x142_9 := N142.ne B9
        have l142 := N142.ge g
        try have l142_gm8 := N142.ge gm8
        try have l142_gm10 := N142.ge gm10
        have g := g.trans (N142.g)
        try have gm8 := gm8.trans (N142.g)
        try have gm10 := gm10.trans (N142.g)
        replace B1 := B1.grow (N142.g)
        replace B7 := B7.grow (N142.g)
        replace B9 := B9.grow (N142.g)
        have B142 := N142.blk
        refine Yd rfl (Zu Wj Yl (Zk (Zb rfl) (Zn)) rfl) (Qx [23] _ _ _ _ B142.row (by decide)) ?_
        rintro v143 w143 ⟨hA143, g143⟩
        have hq143 := hA143
        obtain ⟨f143, fs143, cs143, rfl, hgo143, hf143⟩ := hq143
        refine ⟨fun _ => g143, ?_⟩
        have g := g.trans g143
        try have gm8 := gm8.trans (g143)
        try have gm10 := gm10.trans (g143)
        replace B1 := B1.grow (g143)
        replace B7 := B7.grow (g143)
        replace B9 := B9.grow (g143)
        replace B142 := B142.grow (g143)
        have gm143 := G.refl w143
        refine Xe rfl (Zu Qs Yl (Zk (Zb rfl) (Zk Zl (Zk (Zb rfl) (Zn)))) rfl) (Jqa t _ _ D (memK [23]) _ _ (hk.grow g) (hA143.grow gm143) hc) (fun w144 g144 => ?_)
        have g := g.trans (g144)
        try have gm8 := gm8.trans (g144)
        try have gm10 := gm10.trans (g144)
        try have gm143 := gm143.trans (g144)
        replace B1 := B1.grow (g144)
        replace B7 := B7.grow (g144)
        replace B9 := B9.grow (g144)
        replace B142 := B142.grow (g144)
        refine Zc rfl (fun _ => Ze (Zb rfl)) ?_
        refine Zj [(2, _, _)] (Za rfl (Zd _)) ?_
        refine Zh (hK53 _ _ ?_)
        refine Yf (Yj rfl rfl ?_)
        refine ⟨congrArg Value.bool ?_, g⟩
        unfold formB; simp only [anyK, h1, h5, h6, h7, h8, h9, h18, h22, h23, h25, h26, h27, h28, h29, cond_true, cond_false] <;> rfl
      (try simp only [bsimp] at h29)
      refine Zg fun K54 hK54 => ?_
      refine Zf [3, 3] ?_
      refine Zc rfl (fun _ => Yg (Zb rfl) Zl) ?_
      refine Zc rfl (fun _ => Ze (Zb rfl)) ?_
      refine Zj [(1, _, _), (2, _, _), (3, _, _), (12, _, _), (145, _, _)] (Za rfl (Za rfl (Za rfl (Za rfl (Za rfl (Zd _)))))) ?_
      refine Zh (hK54 _ _ ?_)
      refine Zz (Zb rfl) (fun h30 => ?_) (fun h30 => ?_)
      · (try simp only [bsimp] at h30)
        refine Zg fun K55 hK55 => ?_
        refine Zf [3, 0, 3, 3, 3, 3, 0, 3, 0, 1, 3, 3, 3, 3, 0, 3, 3, 0, 1, 3, 3] ?_
        obtain ⟨p0, c0, h0x⟩ := Jdb hk 0
        obtain ⟨p1, c1, h1x⟩ := Jdb hk 1
        refine Zc rfl (fun _ => Zm Zv (Zb rfl)) ?_
        refine Ya rfl (Zt Zq (Zb rfl) (fun _ => B1.at_ rfl)) ?_
        refine Zc rfl (fun _ => Xx Zo (Zb rfl)) ?_
        refine Zc rfl (fun _ => Yg (Zb rfl) Zl) ?_
        refine Zc rfl (fun _ => Zi (Zb rfl)) ?_
        refine Zs rfl rfl rfl (fun _ => Zm Zv (Zb rfl)) ?_
        refine Yr rfl rfl rfl (Zt Zq (Zy rfl id) (fun _ => B1.at_ rfl)) ?_
        refine Zs rfl rfl rfl (fun _ => Xc Zo (Zy rfl id) Zl (fun hc => by have := of_decide_eq_true hc.2; omega) (fun hc => (h0x (by have := of_decide_eq_true hc.2; omega)).1)) ?_
        refine Yr rfl rfl rfl (Yb Zr (Zy rfl id) rfl (fun hc => (h0x (by have := of_decide_eq_true hc.2; omega)).2.1.grow g)) ?_
        refine Xb rfl rfl rfl (fun _ => (Zu Vqa Yl (Zk (Zy rfl id) (Zn)) rfl)) (fun hc => comm_ok (kidAt t 0) _ _ D _ ((h0x (by have := of_decide_eq_true hc.2; omega)).2.2.grow g) (hcc 0)) (fun w156 g156 => ?_)
        have g := g.trans (g156)
        try have gm8 := gm8.trans (g156)
        try have gm10 := gm10.trans (g156)
        replace B1 := B1.grow (g156)
        replace B7 := B7.grow (g156)
        replace B9 := B9.grow (g156)
        refine Zc rfl (fun _ => Ye (Zb rfl) (Zy rfl id)) ?_
        refine Zc rfl (fun _ => Zi (Zb rfl)) ?_
        refine Zs rfl rfl rfl (fun _ => Zi (Zb rfl)) ?_
        refine Zs rfl rfl rfl (fun _ => Zm Zv (Zb rfl)) ?_
        refine Yr rfl rfl rfl (Zt Zq (Zy rfl id) (fun _ => B1.at_ rfl)) ?_
        refine Zs rfl rfl rfl (fun _ => Xc Zo (Zy rfl id) Zl (fun hc => by have := of_decide_eq_true (Bool.and_eq_true_iff.1 hc.2).1; omega) (fun hc => (h1x (by have := of_decide_eq_true (Bool.and_eq_true_iff.1 hc.2).1; omega)).1)) ?_
        refine Zs rfl rfl rfl (fun _ => Zm Ys (Zy rfl id)) ?_
        refine Yr rfl rfl rfl (Zt Yy (Zy rfl id) (fun hc => ((h1x (by have := of_decide_eq_true (Bool.and_eq_true_iff.1 hc.2).1; omega)).2.1.grow g) 0 _ rfl)) ?_
        refine Xb rfl rfl rfl (fun _ => (Zu hgo8 (Zy rfl id) (Zk (Zy rfl id) (Zn)) rfl)) (fun hc => hf8 _ _ gm8) (fun w165 g165 => ?_)
        have g := g.trans (g165)
        try have gm8 := gm8.trans (g165)
        try have gm10 := gm10.trans (g165)
        replace B1 := B1.grow (g165)
        replace B7 := B7.grow (g165)
        replace B9 := B9.grow (g165)
        refine Zc rfl (fun _ => Ye (Zb rfl) (Zy rfl id)) ?_
        refine Zc rfl (fun _ => Ze (Zb rfl)) ?_
        refine Zj [(2, _, _)] (Za rfl (Zd _)) ?_
        refine Zh (hK55 _ _ ?_)
        refine Yf (Yj rfl rfl ?_)
        refine ⟨congrArg Value.bool ?_, g⟩
        unfold formB; simp only [anyK, h1, h5, h6, h7, h8, h9, h18, h22, h23, h25, h26, h27, h28, h29, h30, cond_true, cond_false] <;> rfl
      (try simp only [bsimp] at h30)
      refine Zg fun K56 hK56 => ?_
      refine Zf [3, 3] ?_
      refine Zc rfl (fun _ => Yg (Zb rfl) Zl) ?_
      refine Zc rfl (fun _ => Ze (Zb rfl)) ?_
      refine Zj [(1, _, _), (2, _, _), (3, _, _), (12, _, _), (167, _, _)] (Za rfl (Za rfl (Za rfl (Za rfl (Za rfl (Zd _)))))) ?_
      refine Zh (hK56 _ _ ?_)
      refine Zz (Zb rfl) (fun h31 => ?_) (fun h31 => ?_)
      · (try simp only [bsimp] at h31)
        refine Zg fun K57 hK57 => ?_
        refine Zf [3, 0, 3, 3, 3, 0, 1, 3, 3] ?_
        refine Zc rfl (fun _ => Zm Zv (Zb rfl)) ?_
        refine Ya rfl (Zt Zq (Zb rfl) (fun _ => B1.at_ rfl)) ?_
        refine Zc rfl (fun _ => Xx Zo (Zb rfl)) ?_
        refine Zc rfl (fun _ => Js (Zb rfl) Zl) ?_
        refine Zc rfl (fun _ => Zi (Zb rfl)) ?_
        refine Yr rfl rfl rfl (Yb Zr (Zb rfl) rfl (fun _ => B1.row)) ?_
        refine Xb rfl rfl rfl (fun _ => (Zu Qs Yl (Zk (Zy rfl id) (Zk Zl (Zk Yl (Zn)))) rfl)) (fun hc => Jqa t _ _ D expK _ _ (hk.grow g) (Zla Wn Uj _) hc0) (fun w175 g175 => ?_)
        have g := g.trans (g175)
        try have gm8 := gm8.trans (g175)
        try have gm10 := gm10.trans (g175)
        replace B1 := B1.grow (g175)
        replace B7 := B7.grow (g175)
        replace B9 := B9.grow (g175)
        refine Zc rfl (fun _ => Ye (Zb rfl) (Zy rfl id)) ?_
        refine Zc rfl (fun _ => Ze (Zb rfl)) ?_
        refine Zj [(2, _, _)] (Za rfl (Zd _)) ?_
        refine Zh (hK57 _ _ ?_)
        refine Yf (Yj rfl rfl ?_)
        refine ⟨congrArg Value.bool ?_, g⟩
        unfold formB; simp only [anyK, h1, h5, h6, h7, h8, h9, h18, h22, h23, h25, h26, h27, h28, h29, h30, h31, cond_true, cond_false] <;> rfl
      (try simp only [bsimp] at h31)
      refine Zg fun K58 hK58 => ?_
      refine Zf [3, 3] ?_
      refine Zc rfl (fun _ => Yg (Zb rfl) Zl) ?_
      refine Zc rfl (fun _ => Ze (Zb rfl)) ?_
      refine Zj [(1, _, _), (2, _, _), (3, _, _), (12, _, _), (177, _, _)] (Za rfl (Za rfl (Za rfl (Za rfl (Za rfl (Zd _)))))) ?_
      refine Zh (hK58 _ _ ?_)
      refine Zz (Zb rfl) (fun h32 => ?_) (fun h32 => ?_)
      · (try simp only [bsimp] at h32)
        refine Zg fun K59 hK59 => ?_
        refine Zf [3, 0, 3, 3, 3, 3, 0, 3, 3, 3] ?_
        refine Zc rfl (fun _ => Zm Zv (Zb rfl)) ?_
        refine Ya rfl (Zt Zq (Zb rfl) (fun _ => B1.at_ rfl)) ?_
        refine Zc rfl (fun _ => Xx Zo (Zb rfl)) ?_
        refine Zc rfl (fun _ => Yg (Zb rfl) Zl) ?_
        refine Zc rfl (fun _ => Zi (Zb rfl)) ?_
        refine Zs rfl rfl rfl (fun _ => Zm Wy (Zb rfl)) ?_
        refine Yr rfl rfl rfl (Zt Yy (Zy rfl id) (fun _ => B1.at_ rfl)) ?_
        refine Zs rfl rfl rfl (fun _ => Wla (Zy rfl id) Zl) ?_
        refine Zc rfl (fun _ => Ye (Zb rfl) (Zy rfl id)) ?_
        refine Zc rfl (fun _ => Ze (Zb rfl)) ?_
        refine Zj [(2, _, _)] (Za rfl (Zd _)) ?_
        refine Zh (hK59 _ _ ?_)
        refine Yf (Yj rfl rfl ?_)
        refine ⟨congrArg Value.bool ?_, g⟩
        unfold formB; simp only [anyK, h1, h5, h6, h7, h8, h9, h18, h22, h23, h25, h26, h27, h28, h29, h30, h31, h32, cond_true, cond_false] <;> rfl
      (try simp only [bsimp] at h32)
      refine Zg fun K60 hK60 => ?_
      refine Zf [3, 3] ?_
      refine Zc rfl (fun _ => Yg (Zb rfl) Zl) ?_
      refine Zc rfl (fun _ => Ze (Zb rfl)) ?_
      refine Zj [(1, _, _), (2, _, _), (3, _, _), (12, _, _), (188, _, _)] (Za rfl (Za rfl (Za rfl (Za rfl (Za rfl (Zd _)))))) ?_
      refine Zh (hK60 _ _ ?_)
      refine Zz (Zb rfl) (fun h33 => ?_) (fun h33 => ?_)
      · (try simp only [bsimp] at h33)
        refine Zg fun K61 hK61 => ?_
        refine Zf [3, 0, 3, 3, 3, 3, 0, 3, 3, 3, 0, 3, 3, 3, 3] ?_
        refine Zc rfl (fun _ => Zm Zv (Zb rfl)) ?_
        refine Ya rfl (Zt Zq (Zb rfl) (fun _ => B1.at_ rfl)) ?_
        refine Zc rfl (fun _ => Xx Zo (Zb rfl)) ?_
        refine Zc rfl (fun _ => Yg (Zb rfl) Zl) ?_
        refine Zc rfl (fun _ => Zi (Zb rfl)) ?_
        refine Zs rfl rfl rfl (fun _ => Zm Wy (Zb rfl)) ?_
        refine Yr rfl rfl rfl (Zt Yy (Zy rfl id) (fun _ => B1.at_ rfl)) ?_
        refine Zs rfl rfl rfl (fun _ => Yg (Zy rfl id) Zl) ?_
        refine Zs rfl rfl rfl (fun _ => Zi (Zy rfl id)) ?_
        refine Zs rfl rfl rfl (fun _ => Zm Wy (Zb rfl)) ?_
        refine Yr rfl rfl rfl (Zt Yy (Zy rfl id) (fun _ => B1.at_ rfl)) ?_
        refine Zs rfl rfl rfl (fun _ => Yg (Zy rfl id) Zl) ?_
        refine Zs rfl rfl rfl (fun _ => Yz (Zy rfl id) (Zy rfl id)) ?_
        refine Zc rfl (fun _ => Ye (Zb rfl) (Zy rfl id)) ?_
        refine Zc rfl (fun _ => Ze (Zb rfl)) ?_
        refine Zj [(2, _, _)] (Za rfl (Zd _)) ?_
        refine Zh (hK61 _ _ ?_)
        refine Yf (Yj rfl rfl ?_)
        refine ⟨congrArg Value.bool ?_, g⟩
        unfold formB; simp only [anyK, h1, h5, h6, h7, h8, h9, h18, h22, h23, h25, h26, h27, h28, h29, h30, h31, h32, h33, cond_true, cond_false] <;> rfl
      (try simp only [bsimp] at h33)
      refine Zg fun K62 hK62 => ?_
      refine Zg fun K63 hK63 => ?_
      refine Zf [3, 3] ?_
      refine Zc rfl (fun _ => Yg (Zb rfl) Zl) ?_
      refine Zc rfl (fun _ => Ze (Zb rfl)) ?_
      refine Zj [(1, _, _), (2, _, _), (3, _, _), (12, _, _), (204, _, _)] (Za rfl (Za rfl (Za rfl (Za rfl (Za rfl (Zd _)))))) ?_
      refine Zh (hK63 _ _ ?_)
      refine' Yk [(1, _, _), (2, _, _), (3, _, _), (12, _, _)] (Za rfl (Za rfl (Za rfl (Za rfl (Za rfl (Zd _)))))) rfl (fun hb34 => ?y34) (hK62 _ _ ?n34)
      case y34 =>
       refine Zg fun K64 hK64 => ?_
       refine Zf [3, 3] ?_
       refine Zc rfl (fun _ => Yg (Zb rfl) Zl) ?_
       refine Zc rfl (fun _ => Ze (Zb rfl)) ?_
       refine Zj [(1, _, _), (2, _, _), (3, _, _), (12, _, _), (204, _, _)] (Za rfl (Za rfl (Za rfl (Za rfl (Za rfl (Zd _)))))) ?_
       refine Zh (hK64 _ _ ?_)
       refine' Yk [(1, _, _), (2, _, _), (3, _, _), (12, _, _)] (Za rfl (Za rfl (Za rfl (Za rfl (Za rfl (Zd _)))))) rfl (fun hb35 => ?y35) (fun a ha => ⟨ha, rfl⟩)
       case y35 =>
        refine Zg fun K65 hK65 => ?_
        refine Zf [3, 3] ?_
        refine Zc rfl (fun _ => Yg (Zb rfl) Zl) ?_
        refine Zc rfl (fun _ => Ze (Zb rfl)) ?_
        refine Zj [(1, _, _), (2, _, _), (3, _, _), (12, _, _), (204, _, _)] (Za rfl (Za rfl (Za rfl (Za rfl (Za rfl (Zd _)))))) ?_
        refine Zh (hK65 _ _ ?_)
        refine' Yk [(1, _, _), (2, _, _), (3, _, _), (12, _, _)] (Za rfl (Za rfl (Za rfl (Za rfl (Za rfl (Zd _)))))) rfl (fun hb36 => ?y36) (fun a ha => ⟨ha, rfl⟩)
        case y36 =>
         refine Zg fun K66 hK66 => ?_
         refine Zf [3, 3] ?_
         refine Zc rfl (fun _ => Yg (Zb rfl) Zl) ?_
         refine Zc rfl (fun _ => Ze (Zb rfl)) ?_
         refine Zj [(1, _, _), (2, _, _), (3, _, _), (12, _, _), (204, _, _)] (Za rfl (Za rfl (Za rfl (Za rfl (Za rfl (Zd _)))))) ?_
         refine Zh (hK66 _ _ ?_)
         refine' Yk [(1, _, _), (2, _, _), (3, _, _), (12, _, _)] (Za rfl (Za rfl (Za rfl (Za rfl (Za rfl (Zd _)))))) rfl (fun hb37 => ?y37) (fun a ha => ⟨ha, rfl⟩)
         case y37 =>
          refine Zg fun K67 hK67 => ?_
          refine Zf [3, 3] ?_
          refine Zc rfl (fun _ => Yg (Zb rfl) Zl) ?_
          refine Zc rfl (fun _ => Ze (Zb rfl)) ?_
          refine Zj [(1, _, _), (2, _, _), (3, _, _), (12, _, _), (204, _, _)] (Za rfl (Za rfl (Za rfl (Za rfl (Za rfl (Zd _)))))) ?_
          refine Zh (hK67 _ _ ?_)
          refine' Yk [(1, _, _), (2, _, _), (3, _, _), (12, _, _)] (Za rfl (Za rfl (Za rfl (Za rfl (Za rfl (Zd _)))))) rfl (fun hb38 => ?y38) (fun a ha => ⟨ha, rfl⟩)
          case y38 =>
           refine Zf [3, 3] ?_
           refine Zc rfl (fun _ => Yg (Zb rfl) Zl) ?_
           refine Zc rfl (fun _ => Ze (Zb rfl)) ?_
           refine Zj [(204, _, _), (1, _, _), (2, _, _), (3, _, _), (12, _, _)] (Za rfl (Za rfl (Za rfl (Za rfl (Za rfl (Zd _)))))) ?_
           exact Zh (fun a ha => ⟨ha, rfl⟩)
      case n34 =>
       refine Zz (Zb rfl) (fun h39 => ?_) (fun h39 => ?_)
       · (try simp only [bsimp] at h39)
         refine Zg fun K68 hK68 => ?_
         refine Zf [3, 0, 3, 3, 3] ?_
         refine Zc rfl (fun _ => Zm Zv (Zb rfl)) ?_
         refine Ya rfl (Zt Zq (Zb rfl) (fun _ => B1.at_ rfl)) ?_
         refine Zc rfl (fun _ => Xx Zo (Zb rfl)) ?_
         refine Zc rfl (fun _ => Yg (Zb rfl) Zl) ?_
         refine Zc rfl (fun _ => Ze (Zb rfl)) ?_
         refine Zj [(2, _, _)] (Za rfl (Zd _)) ?_
         refine Zh (hK68 _ _ ?_)
         refine Yf (Yj rfl rfl ?_)
         refine ⟨congrArg Value.bool ?_, g⟩
         unfold formB; simp only [anyK, h1, h5, h6, h7, h8, h9, h18, h22, h23, h25, h26, h27, h28, h29, h30, h31, h32, h33, h39, cond_true, cond_false] <;> rfl
       (try simp only [bsimp] at h39)
       refine Zg fun K69 hK69 => ?_
       refine Zf [3, 3] ?_
       refine Zc rfl (fun _ => Yg (Zb rfl) Zl) ?_
       refine Zc rfl (fun _ => Ze (Zb rfl)) ?_
       refine Zj [(1, _, _), (2, _, _), (3, _, _), (215, _, _)] (Za rfl (Za rfl (Za rfl (Za rfl (Zd _))))) ?_
       refine Zh (hK69 _ _ ?_)
       refine Zz (Zb rfl) (fun h40 => ?_) (fun h40 => ?_)
       · (try simp only [bsimp] at h40)
         refine Zg fun K70 hK70 => ?_
         refine Zf [0, 3, 1, 1, 3] ?_
         refine Ya rfl (Yb Zr (Zb rfl) rfl (fun _ => B1.row)) ?_
         refine Zc rfl (fun _ => Zi (Zb rfl)) ?_
         refine Zx [_] rfl Xj Xy (Zp (Zb rfl) (Yc)) rfl rfl ?_
         intro b219 w219 N219
         have x219_1 := N219.ne B1
         have x219_7 := N219.ne B7
         have x219_9 := N219.ne B9
         have l219 := N219.ge g
         try have l219_gm8 := N219.ge gm8
         try have l219_gm10 := N219.ge gm10
         have g := g.trans (N219.g)
         try have gm8 := gm8.trans (N219.g)
         try have gm10 := gm10.trans (N219.g)
         replace B1 := B1.grow (N219.g)
         replace B7 := B7.grow (N219.g)
         replace B9 := B9.grow (N219.g)
         have B219 := N219.blk
         refine Xe rfl (Zu Wl Yl (Zk (Zb rfl) (Zk (Zb rfl) (Zn))) rfl) (Jh t _ _ D [memK [10]] _ _ _ _ _ (hk.grow g) rfl B219.row (fun i h => by match i, h with | 0, _ => exact hA8.grow gm8) hc) (fun w220 g220 => ?_)
         have g := g.trans (g220)
         try have gm8 := gm8.trans (g220)
         try have gm10 := gm10.trans (g220)
         replace B1 := B1.grow (g220)
         replace B7 := B7.grow (g220)
         replace B9 := B9.grow (g220)
         replace B219 := B219.grow (g220)
         refine Zc rfl (fun _ => Ze (Zb rfl)) ?_
         refine Zj [(2, _, _)] (Za rfl (Zd _)) ?_
         refine Zh (hK70 _ _ ?_)
         refine Yf (Yj rfl rfl ?_)
         refine ⟨congrArg Value.bool ?_, g⟩
         unfold formB; simp only [anyK, h1, h5, h6, h7, h8, h9, h18, h22, h23, h25, h26, h27, h28, h29, h30, h31, h32, h33, h39, h40, cond_true, cond_false] <;> rfl
       (try simp only [bsimp] at h40)
       refine Yq (hK3 _ _ ?_)
       refine Yi [(2, _, _)] (Za rfl (Zd _)) ?_
       refine Zg fun K71 hK71 => ?_
       refine Zf [3] ?_
       refine Zc rfl (fun _ => Ze Zl) ?_
       refine Zh (hK71 _ _ ?_)
       refine Yf (Yj rfl rfl ?_)
       refine ⟨congrArg Value.bool ?_, g⟩
       unfold formB; simp only [anyK, h1, h5, h6, h7, h8, h9, h18, h22, h23, h25, h26, h27, h28, h29, h30, h31, h32, h33, h39, h40, cond_true, cond_false] <;> rfl
end Go.Rk
namespace Go.Rk
open Go Go.RowKit
def locB (t : Nd) : Bool := textB' t && formB t
def permF (t : Nd) : Bool := para (fun t l => locB t && l.all id) t
theorem Vq (t : Nd) : permF t = (locB t && t.kids.all permF) := by
 rw [permF, Xfa, List.all_map]; rfl
def maxL (l : List Nat) : Nat := l.foldl max 0
def depthN (t : Nd) : Nat := para (fun _ l => maxL l + 1) t
theorem Vob (t : Nd) : depthN t = maxL (t.kids.map depthN) + 1 := Xfa _ t
theorem foldl_max_le (l : List Nat) (a d : Nat) : l.foldl max a ≤ d ↔ a ≤ d ∧ ∀ x ∈ l, x ≤ d := by
 induction l generalizing a with
 | nil => simp
 | cons x xs ih => simp only [List.foldl_cons, ih, List.forall_mem_cons, Nat.max_le, and_assoc]
theorem Jeb (l : List Nat) (d : Nat) : maxL l ≤ d ↔ ∀ x ∈ l, x ≤ d := by
 rw [maxL, foldl_max_le]; exact ⟨fun h => h.2, fun h => ⟨Nat.zero_le _, h⟩⟩
theorem depthN_le (t : Nd) (d : Nat) : depthN t ≤ d ↔ 0 < d ∧ ∀ k ∈ t.kids, depthN k ≤ d - 1 := by
 rw [Vob]
 constructor
 ·intro h
  refine ⟨by omega, fun k hk => ?_⟩
  have := (Jeb (t.kids.map depthN) (d - 1)).1 (by omega)
  exact this _ (List.mem_map_of_mem hk)
 ·rintro ⟨h0, h⟩
  have := (Jeb (t.kids.map depthN) (d - 1)).2 (fun x hx => by obtain ⟨k, hk, rfl⟩ := List.mem_map.1 hx; exact h k hk)
  omega
theorem depthN_pos (t : Nd) : 1 ≤ depthN t := by rw [Vob]; omega
theorem depthN_count : ∀ t, depthN t ≤ count t := by
 refine Nd.ind fun t ih => ?_
 rw [depthN_le]
 exact ⟨Wg t, fun k hk => by have := ih k hk; have := Xz hk; omega⟩
def permB (d : Nat) (t : Nd) : Bool := permF t && decide (depthN t ≤ d)
theorem permB_zero (t : Nd) : permB 0 t = false := by
 have := depthN_pos t
 rw [permB, decide_eq_false (by omega), Bool.and_false]
theorem permB_eq {d : Nat} (h : 0 < d) (t : Nd) : permB d t = ((textB' t && formB t) && t.kids.all (permB (d - 1))) := by
 rw [Bool.eq_iff_iff, permB, Vq, locB]
 simp only [Bool.and_eq_true, decide_eq_true_eq, depthN_le t d, List.all_eq_true, permB]
 constructor
 ·rintro ⟨⟨h1, h2⟩, _, h3⟩; exact ⟨h1, fun k hk => ⟨h2 k hk, h3 k hk⟩⟩
 ·rintro ⟨h1, h2⟩; exact ⟨⟨h1, fun k hk => (h2 k hk).1⟩, h, fun k hk => (h2 k hk).2⟩
theorem kidAt_len {t : Nd} {n : Nat} (h : count t ≤ n) (i : Nat) : (kidAt t i).kids.length ≤ n := by
 by_cases hi : i < t.kids.length
 ·rw [Xu hi]
  have := Xz (List.getElem_mem hi)
  have := Qm t.kids[i]
  omega
 ·have : kidAt t i = nd0 := by simp only [kidAt, List.getD_eq_getElem?_getD]; rw [List.getElem?_eq_none (by omega)]; rfl
  rw [this]; exact Nat.zero_le _
theorem permitted_ok : ∀ (t : Nd) (v : Value) (D : Nat → Prop) (d : Nat) (w : World), Laid w → 6 ≤ w.heap.size → Kd w D t.kids v → count t ≤ 1000000 → d ≤ 1000000 → Ret PP Zob #[ndV t v, .int .i64 (d : Int)] w fun r w' => r = .bool (permB d t) ∧ G w w' := by
 refine Nd.ind fun t ih v D d w hL hb3 hk hcn hd => ?_
 have hk0 := hk
 obtain ⟨p, c, rfl, hcap, hks⟩ := hk
 have g := G.refl w
 have hlen := Qm t
 refine Ym (m := 32) Qda rfl rfl [(0, True, _), (1, True, _)] (Za rfl (Za rfl (Zd _))) ?_
 refine Zg fun K1 hK1 => ?_
 refine Zf [1, 3] ?_
 refine Wd rfl (Zb rfl) rfl ?_
 intro b2 w2 N2
 have l2 := N2.ge g
 have g := g.trans (N2.g)
 have B2 := N2.blk
 refine Zc rfl (fun _ => Ze Zl) ?_
 refine Zj [(1, _, _), (2, _, _), (4, _, _)] (Za rfl (Za rfl (Za rfl (Zd _)))) ?_
 refine Zh (hK1 _ _ ?_)
 refine Zg fun K2 hK2 => ?_
 refine Zg fun K3 hK3 => ?_
 refine Zf [3, 3, 3, 0, 1, 3, 3, 3, 0, 1, 3, 3] ?_
 refine Zc rfl (fun _ => Zi (Zb rfl)) ?_
 refine Zc rfl (fun _ => Yg (Zb rfl) Zl) ?_
 refine Zc rfl (fun _ => Zi (Zb rfl)) ?_
 refine Yr rfl rfl rfl (Yb Zr (Zb rfl) rfl (fun _ => B2.row)) ?_
 refine Xb rfl rfl rfl (fun _ => (Zu Zfc Yl (Zk (Zy rfl id) (Zn)) rfl)) (fun hc => stext_ok t _ _ _ (hL.grow g) (by have := g.size; omega)) (fun w11 g11 => ?_)
 have g := g.trans (g11)
 replace B2 := B2.grow (g11)
 refine Zs rfl rfl rfl (fun _ => Ub (Zy rfl id)) ?_
 refine Zc rfl (fun _ => Yz (Zb rfl) (Zy rfl id)) ?_
 refine Zc rfl (fun _ => Zi (Zb rfl)) ?_
 refine Yr rfl rfl rfl (Yb Zr (Zb rfl) rfl (fun _ => B2.row)) ?_
 refine Xb rfl rfl rfl (fun _ => (Zu Zhc Yl (Zk (Zy rfl id) (Zn)) rfl)) (fun hc => form_ok t _ _ D _ (hk0.grow g) (by omega) (fun i => kidAt_len hcn i)) (fun w16 g16 => ?_)
 have g := g.trans (g16)
 replace B2 := B2.grow (g16)
 refine Zs rfl rfl rfl (fun _ => Ub (Zy rfl id)) ?_
 refine Zc rfl (fun _ => Yz (Zb rfl) (Zy rfl id)) ?_
 refine Zj [(1, _, _), (2, _, _), (4, _, _), (18, _, _)] (Za rfl (Za rfl (Za rfl (Za rfl (Zd _))))) ?_
 refine Zh (hK3 _ _ ?_)
 refine Zz (Zb rfl) (fun h1 => ?_) (fun h1 => ?_)
 ·have hN : permB d t = false := by
   rw [Bool.or_eq_true, Bool.or_eq_true, decide_eq_true_eq, Bool.not_eq_true', Bool.not_eq_true'] at h1
   by_cases h0 : d = 0
   ·rw [h0]; exact permB_zero t
   ·rw [permB_eq (by omega)]
    rcases h1 with (h1 | h1) | h1
    ·omega
    ·rw [h1]; rfl
    ·rw [h1, Bool.and_false]; rfl
  refine Zg fun K4 hK4 => ?_
  refine Zf [3] ?_
  refine Zc rfl (fun _ => Ze Zl) ?_
  refine Zj [(1, _, _), (2, _, _), (4, _, _)] (Za rfl (Za rfl (Za rfl (Zd _)))) ?_
  refine Zh (hK4 _ _ ?_)
  refine Yf (Yj rfl rfl ?_)
  rw [hN]; exact ⟨rfl, g⟩
 have hpos : 0 < d := by
  rcases Nat.eq_zero_or_pos d with h0 | h0
  ·rw [h0] at h1; exact absurd h1 (by simp)
  ·exact h0
 have hloc : (textB' t && formB t) = true := by
  rw [Bool.or_eq_false_iff, Bool.or_eq_false_iff, Bool.not_eq_false', Bool.not_eq_false'] at h1
  rw [h1.1.2, h1.2]; rfl
 have hN := permB_eq hpos t
 rw [hloc, Bool.true_and] at hN
 refine Yq (hK2 _ _ ?_)
 refine Yi [(1, _, _), (2, _, _), (4, _, _)] (Za rfl (Za rfl (Za rfl (Zd _)))) ?_
 refine Zg fun K5 hK5 => ?_
 refine Zg fun K6 hK6 => ?_
 refine Zf [3, 0, 3, 3] ?_
 refine Zc rfl (fun _ => Zm Zv (Zb rfl)) ?_
 refine Ya rfl (Zt Zq (Zb rfl) (fun _ => B2.at_ rfl)) ?_
 refine Zc rfl (fun _ => Xx Zo (Zb rfl)) ?_
 refine Zc rfl (fun _ => Zi Zl) ?_
 refine Zj [(1, _, _), (4, _, _), (20, _, _), (21, _, _), (22, _, _)] (Za rfl (Za rfl (Za rfl (Za rfl (Za rfl (Zd _)))))) ?_
 refine Zh (hK6 _ _ ?_)
 refine Yp ?_
 refine Wv (fun (i : Nat) u1 => (i ≤ t.kids.length ∧ ∀ j, (h : j < t.kids.length) → j < i → permB (d - 1) t.kids[j] = true) ∧ G w16 u1) [(1, True, _), (20, True, _), (21, True, _)] (fun (i : Nat) => [(22, True, .int .i64 i)]) (fun (i : Nat) => t.kids.length - i) (0) ⟨⟨Nat.zero_le _, fun j _ hj => absurd hj (Nat.not_lt_zero j)⟩, G.refl _⟩ (Za rfl (Za rfl (Za rfl (Za rfl (Zd _))))) ?_
 rintro i u1 ⟨hI1, gl1⟩
 have g := g.trans gl1
 replace B2 := B2.grow (gl1)
 refine Zg fun K7 hK7 => ?_
 refine Zf [3] ?_
 refine Zc rfl (fun _ => Vh (Zb rfl) (Zb rfl)) ?_
 refine Zh (hK7 _ _ ?_)
 refine Yi [(1, _, _), (20, _, _), (21, _, _), (22, _, _), (23, _, _)] (Za rfl (Za rfl (Za rfl (Za rfl (Za rfl (Zd _)))))) ?_
 refine Zg fun K8 hK8 => ?_
 refine Zz (Zb rfl) (fun h2 => ?_) (fun h2 => ?_)
 ·replace h2 : i < t.kids.length := by simp only [decide_eq_true_eq] at h2; omega
  obtain ⟨b, o, rfl, hD, xs, hR, hX⟩ := hks (by omega)
  obtain ⟨p', c', hcell, hkid⟩ := Yna hR hX h2
  have hck := Ju h2
  refine Yq (hK8 _ _ ?_)
  refine Yi [(1, _, _), (20, _, _), (21, _, _), (22, _, _)] (Za rfl (Za rfl (Za rfl (Za rfl (Zd _))))) ?_
  refine Zg fun K9 hK9 => ?_
  refine Yp ?_
  refine Zg fun K10 hK10 => ?_
  refine Zf [3, 0, 1, 2] ?_
  refine Zc rfl (fun _ => Uc Zo (Zb rfl) (Zb rfl) (fun _ => by omega)) ?_
  refine Ya rfl (Yb Zr (Zb rfl) rfl (fun _ => hcell.grow g)) ?_
  refine Xr rfl Yo rfl ?_
  intro b6 w6 N6
  have x6_2 := N6.ne B2
  have l6 := N6.ge g
  try have l6_gl1 := N6.ge gl1
  have g := g.trans (N6.g)
  try have gl1 := gl1.trans (N6.g)
  replace B2 := B2.grow (N6.g)
  have B6 := N6.blk
  refine Yu rfl Xi (Zb rfl) (Zb rfl) rfl rfl B6 rfl rfl ?_
  intro wS1 hgS1 hzS1
  clear B6
  intro B6
  replace B2 := B2.keep hgS1 (by intro h; injection h with h; first | exact x6_2 h.symm | exact x2_6 h | omega)
  have g := Xo g hgS1 (by intro k hk; injection hk with hk; omega)
  first | replace gl1 := Xo gl1 hgS1 (by intro k hk; injection hk with hk; omega) | clear gl1 | skip
  refine Zj [(1, _, _), (6, _, _), (20, _, _), (21, _, _), (22, _, _)] (Za rfl (Za rfl (Za rfl (Za rfl (Za rfl (Zd _)))))) ?_
  refine Zh (hK10 _ _ ?_)
  refine Zg fun K11 hK11 => ?_
  refine Zf [0, 3, 3, 1, 3] ?_
  refine Ya rfl (Yb Zr (Zb rfl) rfl (fun _ => B6.row)) ?_
  refine Zc rfl (fun _ => Zi (Zb rfl)) ?_
  refine Zc rfl (fun _ => Jab (r := ((d - 1 : Nat) : Int)) (Zb rfl) Zl (fun hc => (by rw [Jlb ⟨by omega, by omega⟩]; omega))) ?_
  refine Xe rfl (Zu Xca Yl (Zk (Zb rfl) (Zk (Zb rfl) (Zn))) rfl) (ih _ (List.getElem_mem h2) _ _ (d - 1) _ (hL.grow g) (by have := g.size; omega) (hkid.grow g) (by omega) (by omega)) (fun w29 g29 => ?_)
  have g := g.trans (g29)
  try have gl1 := gl1.trans (g29)
  replace B2 := B2.grow (g29)
  replace B6 := B6.grow (g29)
  refine Zc rfl (fun _ => Ub (Zb rfl)) ?_
  refine Zj [(1, _, _), (20, _, _), (21, _, _), (22, _, _), (30, _, _)] (Za rfl (Za rfl (Za rfl (Za rfl (Za rfl (Zd _)))))) ?_
  refine Zh (hK11 _ _ ?_)
  refine Zz (Zb rfl) (fun h3 => ?_) (fun h3 => ?_)
  ·(try simp only [bsimp] at h3)
   refine Zg fun K12 hK12 => ?_
   refine Zf [3] ?_
   refine Zc rfl (fun _ => Ze Zl) ?_
   refine Zj [(1, _, _), (4, _, _), (20, _, _), (21, _, _), (22, _, _)] (Za rfl (Za rfl (Za rfl (Za rfl (Za rfl (Zd _)))))) ?_
   refine Zh (hK12 _ _ ?_)
   refine Yf (Yj rfl rfl ?_)
   refine ⟨congrArg Value.bool ?_, g⟩
   rw [eq_comm, hN, List.all_eq_false]
   exact ⟨_, List.getElem_mem h2, by simpa using h3⟩
  (try simp only [bsimp] at h3)
  refine Yq (hK9 _ _ ?_)
  refine Yi [(1, _, _), (20, _, _), (21, _, _), (22, _, _)] (Za rfl (Za rfl (Za rfl (Za rfl (Zd _))))) ?_
  refine Zf [3, 3] ?_
  refine Zc rfl (fun _ => Xq (Zb rfl) Zl (fun _ => by omega)) ?_
  refine Zc rfl (fun _ => Zi (Zb rfl)) ?_
  refine Zj [(22, _, _), (1, _, _), (20, _, _), (21, _, _)] (Za rfl (Za rfl (Za rfl (Za rfl (Zd _))))) ?_
  refine Zh (fun a ha => ?_)
  refine ⟨i + 1, ha, ⟨⟨h2, fun j h hj => ?_⟩, gl1⟩, by omega⟩
  by_cases e : j = i
  ·subst e; simpa using h3
  ·exact hI1.2 j h (by omega)
 (try simp only [bsimp] at h2)
 refine Wa rfl (hK5 _ _ ?_)
 refine Yi [] (Zd _) ?_
 refine Zg fun K13 hK13 => ?_
 refine Zf [3] ?_
 refine Zc rfl (fun _ => Ze Zl) ?_
 refine Zh (hK13 _ _ ?_)
 refine Yf (Yj rfl rfl ?_)
 refine ⟨congrArg Value.bool ?_, g⟩
 rw [eq_comm, hN, List.all_eq_true]
 intro x hx
 obtain ⟨j, hj, rfl⟩ := List.getElem_of_mem hx
 exact hI1.2 j hj (by simp only [decide_eq_false_iff_not] at h2; omega)
def validB (t : Nd) : Bool := decide (t.kind = 1) && permB 50 t
theorem svalid_ok (t : Nd) (v : Value) (D : Nat → Prop) (w : World) (hL : Laid w) (hb3 : 6 ≤ w.heap.size) (hk : Kd w D t.kids v) (hcn : count t ≤ 1000000) : Ret PP Utb #[ndV t v] w fun r w' => r = .bool (validB t) ∧ G w w' := by
 have g := G.refl w
 refine Ym (m := 10) Xlb rfl rfl [(0, True, _)] (Za rfl (Zd _)) ?_
 refine Zg fun K1 hK1 => ?_
 refine Zf [1, 3] ?_
 refine Wd rfl (Zb rfl) rfl ?_
 intro b1 w1 N1
 have l1 := N1.ge g
 have g := g.trans (N1.g)
 have B1 := N1.blk
 refine Zc rfl (fun _ => Ze Zl) ?_
 refine Zj [(1, _, _), (2, _, _)] (Za rfl (Za rfl (Zd _))) ?_
 refine Zh (hK1 _ _ ?_)
 refine Zg fun K2 hK2 => ?_
 refine Zf [3, 0, 3, 3, 0, 1, 3, 3] ?_
 refine Zc rfl (fun _ => Zm Ys (Zb rfl)) ?_
 refine Ya rfl (Zt Yy (Zb rfl) (fun _ => B1.at_ rfl)) ?_
 refine Zc rfl (fun _ => Yg (Zb rfl) Zl) ?_
 refine Zc rfl (fun _ => Zi (Zb rfl)) ?_
 refine Yr rfl rfl rfl (Yb Zr (Zb rfl) rfl (fun _ => B1.row)) ?_
 refine Xb rfl rfl rfl (fun _ => (Zu Xca Yl (Zk (Zy rfl id) (Zk Zl (Zn))) rfl)) (fun hc => permitted_ok t _ D 50 _ (hL.grow g) (by have := g.size; omega) (hk.grow g) hcn (by decide)) (fun w8 g8 => ?_)
 have g := g.trans (g8)
 replace B1 := B1.grow (g8)
 refine Zc rfl (fun _ => Ye (Zb rfl) (Zy rfl id)) ?_
 refine Zc rfl (fun _ => Ze (Zb rfl)) ?_
 refine Zj [(2, _, _)] (Za rfl (Zd _)) ?_
 refine Zh (hK2 _ _ ?_)
 refine Yf (Yj rfl rfl ?_)
 exact ⟨rfl, g⟩
end Go.Rk
namespace Go.Rk
open Go Go.RowKit
def exprB (t : Nd) : Bool := expK t.kind && permF t
def blockB (t : Nd) : Bool := decide (t.kind = 10) && permF t
def stmtB (t : Nd) : Bool := stK t.kind && permF t
def ifB (t : Nd) : Bool := decide (t.kind = 18) && permF t
def varB (t : Nd) : Bool := decide (t.kind = 6) && permF t
def commF (t : Nd) : Bool := commB t && permF t
def plainB (t : Nd) : Bool := decide (t.text = [])
def noneB (t : Nd) : Bool := (decide (t.kind = 9) && decide (t.text = [])) && lenK t 0
def kindB (t : Nd) (k : Int) : Bool := decide (t.kind = k) && exprB t
theorem len_two {α : Type} {l : List α} (h : l.length = 2) : ∃ a b, l = [a, b] := by
 match l, h with | [a, b], _ => exact ⟨a, b, rfl⟩
theorem len_three {α : Type} {l : List α} (h : l.length = 3) : ∃ a b c, l = [a, b, c] := by
 match l, h with | [a, b, c], _ => exact ⟨a, b, c, rfl⟩
theorem Qf (a k : Int) : memK [a] k = decide (k = a) := by simp [memK]
theorem Jra {t : Nd} (n : Nat) (h : t.kids.length ≠ n) : lenK t (n : Int) = false := by rw [lenK, decide_eq_false]; omega
theorem Jfb {t : Nd} {qs : List (Int → Bool)} (h : t.kids.length ≠ qs.length) : kidsB t qs = false := by rw [kidsB, decide_eq_false h, Bool.false_and]
theorem kids_0 {t : Nd} {f : Nd → Bool} : (lenK t 0 && t.kids.all f) = lenK t 0 := by
 by_cases h : t.kids.length = 0
 ·rw [List.length_eq_zero_iff.1 h, List.all_nil, Bool.and_true]
 ·rw [show lenK t 0 = false from Jra 0 h]; rfl
theorem kids_1 {t : Nd} {q : Int → Bool} : (kidsB t [q] && t.kids.all permF) = (lenK t 1 && (q (kidAt t 0).kind && permF (kidAt t 0))) := by
 by_cases h : t.kids.length = 1
 ·obtain ⟨a, ha⟩ := List.length_eq_one_iff.1 h
  simp [lenK, kidsB, kidAt, ha, List.range_succ]
 ·rw [show lenK t 1 = false from Jra 1 h, Jfb h]; rfl
theorem kids_2 {t : Nd} {q q2 : Int → Bool} : (kidsB t [q, q2] && t.kids.all permF) = (lenK t 2 && ((q (kidAt t 0).kind && permF (kidAt t 0)) && (q2 (kidAt t 1).kind && permF (kidAt t 1)))) := by
 by_cases h : t.kids.length = 2
 ·obtain ⟨a, b, ha⟩ := len_two h
  simp [lenK, kidsB, kidAt, ha, List.range_succ]; ac_rfl
 ·rw [show lenK t 2 = false from Jra 2 h, Jfb h]; rfl
theorem kids_3 {t : Nd} {q q2 q3 : Int → Bool} : (kidsB t [q, q2, q3] && t.kids.all permF) = (lenK t 3 && (((q (kidAt t 0).kind && permF (kidAt t 0)) && (q2 (kidAt t 1).kind && permF (kidAt t 1))) && (q3 (kidAt t 2).kind && permF (kidAt t 2)))) := by
 by_cases h : t.kids.length = 3
 ·obtain ⟨a, b, c, ha⟩ := len_three h
  simp [lenK, kidsB, kidAt, ha, List.range_succ]; ac_rfl
 ·rw [show lenK t 3 = false from Jra 3 h, Jfb h]; rfl
theorem all_1 {t : Nd} {f : Nd → Bool} : (lenK t 1 && t.kids.all f) = (lenK t 1 && f (kidAt t 0)) := by
 by_cases h : t.kids.length = 1
 ·obtain ⟨a, ha⟩ := List.length_eq_one_iff.1 h
  simp [lenK, kidAt, ha]
 ·rw [show lenK t 1 = false from Jra 1 h]; rfl
theorem all_2 {t : Nd} {f : Nd → Bool} : (lenK t 2 && t.kids.all f) = (lenK t 2 && (f (kidAt t 0) && f (kidAt t 1))) := by
 by_cases h : t.kids.length = 2
 ·obtain ⟨a, b, ha⟩ := len_two h
  simp [lenK, kidAt, ha]
 ·rw [show lenK t 2 = false from Jra 2 h]; rfl
theorem Uba {t : Nd} {q : Int → Bool} : (everyB t q && t.kids.all permF) = t.kids.all fun k => q k.kind && permF k := by
 rw [everyB, Bool.eq_iff_iff]
 simp only [Bool.and_eq_true, List.all_eq_true]
 exact ⟨fun h k hk => ⟨h.1 k hk, h.2 k hk⟩, fun h => ⟨fun k hk => (h k hk).1, fun k hk => (h k hk).2⟩⟩
theorem exp_all {t : Nd} : (everyB t expK && t.kids.all permF) = t.kids.all exprB := Uba
def Wx (t : Nd) : Bool :=
 bif decide (t.kind = 24) then (plainB t && lenK t 0) && decide (0 ≤ t.num)
 else bif decide (t.kind = 25) then (plainB t && lenK t 0) && (decide (t.num = 0) || decide (t.num = 1))
 else bif decide (t.kind = 26) then plainB t && lenK t 0
 else bif anyK [27, 34] t.kind then nameB t.text && lenK t 0
 else bif decide (t.kind = 28) then (nameB t.text && lenK t 1) && exprB (kidAt t 0)
 else bif decide (t.kind = 29) then (plainB t && lenK t 2) && t.kids.all exprB
 else bif decide (t.kind = 30) then (plainB t && decide (1 ≤ (t.kids.length : Int))) && t.kids.all exprB
 else bif decide (t.kind = 31) then ((decide (t.text = [45]) || decide (t.text = [33])) && lenK t 1) && exprB (kidAt t 0)
 else bif decide (t.kind = 32) then (anyS binOps t.text && lenK t 2) && t.kids.all exprB
 else bif anyK [33, 35, 36, 37] t.kind then (plainB t && lenK t 1) && exprB (kidAt t 0)
 else bif decide (t.kind = 38) then (plainB t && lenK t 1) && blockB (kidAt t 0)
 else false
theorem fl0 {t : Nd} {X : Bool} : (X && lenK t 0) = ((X && lenK t 0) && t.kids.all permF) := by rw [Bool.and_assoc, kids_0]
theorem fl0' {t : Nd} {X Y : Bool} : ((X && lenK t 0) && Y) = ((X && (lenK t 0 && Y)) && t.kids.all permF) := by
 rw [show ((X && (lenK t 0 && Y)) && t.kids.all permF) = ((X && Y) && (lenK t 0 && t.kids.all permF)) by simp only [Bool.and_assoc, Bool.and_comm, Bool.and_left_comm], kids_0]
 simp only [Bool.and_assoc, Bool.and_comm, Bool.and_left_comm]
theorem fl1 {t : Nd} {X : Bool} {q : Int → Bool} : ((X && lenK t 1) && (q (kidAt t 0).kind && permF (kidAt t 0))) = ((X && kidsB t [q]) && t.kids.all permF) := by rw [Bool.and_assoc, Bool.and_assoc, kids_1]
theorem fl2 {t : Nd} {X : Bool} : ((X && lenK t 2) && t.kids.all exprB) = ((X && kidsB t [expK, expK]) && t.kids.all permF) := by rw [Bool.and_assoc, Bool.and_assoc, kids_2, all_2]; rfl
theorem flv {t : Nd} {X Y Z : Bool} (h : Y = Z) : ((X && Y) && t.kids.all exprB) = ((X && (Z && everyB t expK)) && t.kids.all permF) := by rw [Bool.and_assoc, Bool.and_assoc, Bool.and_assoc, exp_all, h]
theorem Ve (t : Nd) : Wx t = exprB t := by
 rw [exprB, Vq, locB]
 unfold Wx textB' formB
 by_cases h : t.kind = 24
 ·rw [h]; exact fl0'
 by_cases h1 : t.kind = 25
 ·rw [h1]; exact fl0'
 by_cases h2 : t.kind = 26
 ·rw [h2]; exact fl0
 by_cases h3 : t.kind = 27
 ·rw [h3]; exact fl0
 by_cases h4 : t.kind = 34
 ·rw [h4]; exact fl0
 by_cases h5 : t.kind = 28
 ·rw [h5]; exact fl1
 by_cases h6 : t.kind = 29
 ·rw [h6]; exact fl2
 by_cases h7 : t.kind = 30
 ·rw [h7]; exact flv (by rw [decide_eq_decide]; omega)
 by_cases h8 : t.kind = 31
 ·rw [h8]; exact fl1
 by_cases h9 : t.kind = 32
 ·rw [h9]; exact fl2
 by_cases h10 : t.kind = 33
 ·rw [h10]; exact fl1
 by_cases h11 : t.kind = 35
 ·rw [h11]; exact fl1
 by_cases h12 : t.kind = 36
 ·rw [h12]; exact fl1
 by_cases h13 : t.kind = 37
 ·rw [h13]; exact fl1
 by_cases h14 : t.kind = 38
 ·rw [h14]; refine Eq.trans ?_ (fl1 (X := plainB t) (q := memK [10])); rw [Qf]; rfl
 simp only [expK, anyK, decide_eq_false h, decide_eq_false h1, decide_eq_false h2, decide_eq_false h3, decide_eq_false h4, decide_eq_false h5, decide_eq_false h6, decide_eq_false h7, decide_eq_false h8, decide_eq_false h9, decide_eq_false h10, decide_eq_false h11, decide_eq_false h12, decide_eq_false h13, decide_eq_false h14, Bool.or_false, cond_false, Bool.false_and]
def Wgb (t : Nd) : Bool := bif !decide (t.kind = 10) || !plainB t then false else t.kids.all stmtB
def refIf (t : Nd) : Bool := bif (!decide (t.kind = 18) || !plainB t) || !lenK t 3 then false else (exprB (kidAt t 0) && blockB (kidAt t 1)) && ((blockB (kidAt t 2) || ifB (kidAt t 2)) || noneB (kidAt t 2))
def refVar (t : Nd) : Bool := (((decide (t.kind = 6) && nameB t.text) && lenK t 2) && isTypeB (kidAt t 0)) && (noneB (kidAt t 1) || exprB (kidAt t 1))
theorem or_two (a b p : Bool) : ((a && p) || (b && p)) = ((b || a) && p) := by cases a <;> cases b <;> cases p <;> rfl
theorem or_three (a b c p : Bool) : (((a && p) || (b && p)) || (c && p)) = (((a || b) || c) && p) := by cases a <;> cases b <;> cases c <;> cases p <;> rfl
theorem Whb (a b c : Bool) : (bif !a || !b then false else c) = ((a && b) && c) := by cases a <;> cases b <;> rfl
theorem not_if3 (a b c d : Bool) : (bif (!a || !b) || !c then false else d) = (((a && b) && c) && d) := by cases a <;> cases b <;> cases c <;> rfl
theorem Xwa (t : Nd) : noneB t = (decide (t.kind = 9) && permF t) := by
 rw [noneB]
 by_cases h : t.kind = 9
 ·rw [Vq, locB, textB', formB, h, Bool.and_assoc]; exact congrArg (true && ·) fl0
 ·rw [decide_eq_false h]; rfl
theorem Xxa (t : Nd) : isTypeB t = (typK t.kind && permF t) := by
 rw [Vq, locB]
 unfold isTypeB textB' formB
 by_cases h : t.kind = 8
 ·rw [h]; exact fl0
 by_cases h1 : t.kind = 7
 ·rw [h1]; exact fl0
 rw [decide_eq_false h, decide_eq_false h1, typK, anyK, anyK, decide_eq_false h, decide_eq_false h1]; rfl
theorem Ukb (t : Nd) : Wgb t = blockB t := by
 rw [Wgb, blockB, Whb]
 by_cases h : t.kind = 10
 ·rw [Vq, locB, textB', formB, h, Bool.and_assoc]; exact congrArg (true && ·) (by
   refine Eq.trans ?_ (Bool.and_assoc (plainB t) (everyB t stK) _).symm
   rw [Uba]; rfl)
 ·rw [decide_eq_false h]; rfl
theorem refIf_eq (t : Nd) : refIf t = ifB t := by
 rw [refIf, not_if3, show ifB t = (decide (t.kind = 18) && permF t) from rfl]
 by_cases h : t.kind = 18
 ·rw [Vq, locB, textB', formB, h, Bool.and_assoc, Bool.and_assoc]; exact congrArg (true && ·) (by
   refine Eq.trans ?_ (Bool.and_assoc (plainB t) (kidsB t [expK, memK [10], memK [10, 18, 9]]) _).symm
   rw [kids_3, Qf, Xwa, show memK [10, 18, 9] (kidAt t 2).kind = ((decide ((kidAt t 2).kind = 10) || decide ((kidAt t 2).kind = 18)) || decide ((kidAt t 2).kind = 9)) by simp [memK, Bool.or_assoc], ← or_three]; rfl)
 ·rw [decide_eq_false h]; rfl
theorem refVar_eq (t : Nd) : refVar t = varB t := by
 rw [refVar, varB]
 by_cases h : t.kind = 6
 ·rw [Vq, locB, textB', formB, h, Bool.and_assoc, Bool.and_assoc, Bool.and_assoc]; exact congrArg (true && ·) (by
   refine Eq.trans ?_ (Bool.and_assoc (nameB t.text) (kidsB t [typK, fun k => expK k || memK [9] k]) _).symm
   rw [kids_2, Qf, Xwa, Xxa, show exprB (kidAt t 1) = (expK (kidAt t 1).kind && permF (kidAt t 1)) from rfl, or_two])
 ·rw [decide_eq_false h]; rfl
def Wsa (t : Nd) : Bool :=
 bif anyK [16, 9] t.kind then stmtB t || noneB t
 else bif decide (t.kind = 13) then stmtB t && decide ((kidAt t 0).kind = 33)
 else bif decide (t.kind = 12) then stmtB t && decide ((kidAt t 1).kind = 33)
 else bif decide (t.kind = 11) then stmtB t && decide ((kidAt t 0).kind = 33)
 else false
theorem Vpb {t : Nd} (h : t.kind = 13 ∨ t.kind = 11) (hp : permF t = true) : t.kids.length = 1 := by
 rw [Vq, locB, Bool.and_eq_true, Bool.and_eq_true] at hp
 have hf := hp.1.2
 rcases h with h | h <;> rw [formB, h] at hf
 ·have : kidsB t [memK [30, 33]] = true := hf
  rw [kidsB, Bool.and_eq_true, decide_eq_true_eq] at this; exact this.1
 ·have : kidsB t [expK] = true := hf
  rw [kidsB, Bool.and_eq_true, decide_eq_true_eq] at this; exact this.1
theorem Xla {t : Nd} (h : t.kind = 12 ∨ t.kind = 6) (hp : permF t = true) : t.kids.length = 2 := by
 rw [Vq, locB, Bool.and_eq_true, Bool.and_eq_true] at hp
 have hf := hp.1.2
 rcases h with h | h <;> rw [formB, h] at hf
 ·have : kidsB t [expK, expK] = true := hf
  rw [kidsB, Bool.and_eq_true, decide_eq_true_eq] at this; exact this.1
 ·have : kidsB t [typK, fun k => expK k || memK [9] k] = true := hf
  rw [kidsB, Bool.and_eq_true, decide_eq_true_eq] at this; exact this.1
theorem and_mid {a b c : Bool} (h : a = true → b = true) : (a && c) = ((b && c) && a) := by revert h; cases a <;> cases b <;> cases c <;> simp
theorem Ygc (t : Nd) : Wsa t = commF t := by
 rw [Wsa, commF, Xwa, stmtB]
 unfold commB
 by_cases h : t.kind = 16
 ·rw [h]; exact (show (permF t || false) = _ from Bool.or_false _)
 by_cases h1 : t.kind = 9
 ·rw [h1]; rfl
 by_cases h2 : t.kind = 13
 ·have hl : permF t = true → decide (((t.kids.length : Int) - 1) = 0) = true := fun hp => by rw [Vpb (.inl h2) hp]; rfl
  rw [h2]; exact (show _ = ((decide (((t.kids.length : Int) - 1) = 0) && decide ((kidAt t 0).kind = 33)) && permF t) from and_mid hl)
 by_cases h3 : t.kind = 12
 ·have hl : permF t = true → decide (((t.kids.length : Int) - 1) = 1) = true := fun hp => by rw [Xla (.inl h3) hp]; rfl
  rw [h3]; exact (show _ = ((decide (((t.kids.length : Int) - 1) = 1) && decide ((kidAt t 1).kind = 33)) && permF t) from and_mid hl)
 by_cases h4 : t.kind = 11
 ·have hl : permF t = true → decide (((t.kids.length : Int) - 1) = 0) = true := fun hp => by rw [Vpb (.inr h4) hp]; rfl
  rw [h4]; exact (show _ = ((decide (((t.kids.length : Int) - 1) = 0) && decide ((kidAt t 0).kind = 33)) && permF t) from and_mid hl)
 simp only [anyK, decide_eq_false h, decide_eq_false h1, decide_eq_false h2, decide_eq_false h3, decide_eq_false h4, Bool.or_false, cond_false, Bool.false_and]
def caseB (t : Nd) : Bool := (((decide (t.kind = 23) && plainB t) && lenK t 2) && commF (kidAt t 0)) && blockB (kidAt t 1)
theorem caseB_eq (t : Nd) : caseB t = (decide (t.kind = 23) && permF t) := by
 rw [caseB]
 by_cases h : t.kind = 23
 ·rw [Vq, locB, textB', formB, h]
  refine Eq.trans (b := ((plainB t && ((lenK t 2 && commB (kidAt t 0)) && memK [10] (kidAt t 1).kind)) && t.kids.all permF)) ?_ rfl
  rw [Qf, show ((plainB t && ((lenK t 2 && commB (kidAt t 0)) && decide ((kidAt t 1).kind = 10))) && t.kids.all permF) = ((plainB t && (commB (kidAt t 0) && decide ((kidAt t 1).kind = 10))) && (lenK t 2 && t.kids.all permF)) by ac_rfl, all_2, commF, blockB]
  show (((plainB t && lenK t 2) && _) && _) = _
  ac_rfl
 ·rw [decide_eq_false h]; rfl
def refSelect (t : Nd) : Bool := t.kids.all caseB && plainB t
theorem Wib {t : Nd} (h : t.kind = 22) : refSelect t = permF t := by
 rw [Vq, locB, textB', formB, h]
 refine Eq.trans (b := ((plainB t && everyB t (memK [23])) && t.kids.all permF)) ?_ rfl
 rw [Bool.and_assoc, Uba, refSelect, Bool.and_comm]
 congr 2
 funext k
 rw [caseB_eq, Qf]
def refStmt (t : Nd) : Bool :=
 bif decide (t.kind = 6) then varB t
 else bif decide (t.kind = 10) then blockB t
 else bif decide (t.kind = 18) then ifB t
 else bif decide (t.kind = 22) then permF t
 else bif decide (t.kind = 11) then (nameB t.text && lenK t 1) && exprB (kidAt t 0)
 else bif anyK [12, 16] t.kind then (plainB t && lenK t 2) && t.kids.all exprB
 else bif decide (t.kind = 13) then (plainB t && lenK t 1) && (kindB (kidAt t 0) 30 || kindB (kidAt t 0) 33)
 else bif anyK [14, 15] t.kind then (plainB t && lenK t 1) && kindB (kidAt t 0) 30
 else bif anyK [17, 21] t.kind then (plainB t && lenK t 1) && exprB (kidAt t 0)
 else bif decide (t.kind = 20) then (plainB t && decide ((t.kids.length : Int) ≤ 1)) && t.kids.all exprB
 else bif decide (t.kind = 19) then ((plainB t && lenK t 2) && (noneB (kidAt t 0) || exprB (kidAt t 0))) && blockB (kidAt t 1)
 else false
theorem Yhc (t : Nd) : kindB t 30 = (memK [30] t.kind && permF t) := by
 rw [kindB, Qf, exprB]
 by_cases h : t.kind = 30
 ·rw [h]; rfl
 ·rw [decide_eq_false h]; rfl
theorem kindB_33 (t : Nd) : kindB t 33 = (decide (t.kind = 33) && permF t) := by
 rw [kindB, exprB]
 by_cases h : t.kind = 33
 ·rw [h]; rfl
 ·rw [decide_eq_false h]; rfl
theorem kindB_or (t : Nd) : (kindB t 30 || kindB t 33) = (memK [30, 33] t.kind && permF t) := by
 rw [Yhc, kindB_33, or_two, Qf]; congr 1; simp [memK, Bool.or_comm]
theorem ret_len {t : Nd} : (decide ((t.kids.length : Int) ≤ 1) && t.kids.all exprB) = ((lenK t 0 || kidsB t [expK]) && t.kids.all permF) := by
 by_cases h : t.kids.length = 0
 ·rw [List.length_eq_zero_iff.1 h, show lenK t 0 = true by rw [lenK, decide_eq_true_eq]; omega]; rfl
 by_cases h1 : t.kids.length = 1
 ·rw [show lenK t 0 = false from Jra 0 h, Bool.false_or, kids_1, show decide ((t.kids.length : Int) ≤ 1) = lenK t 1 by rw [lenK, decide_eq_decide]; omega, all_1]; rfl
 ·rw [show lenK t 0 = false from Jra 0 h, Jfb h1, decide_eq_false (by omega)]; rfl
theorem Vr (t : Nd) : refStmt t = stmtB t := by
 rw [stmtB]
 by_cases h : t.kind = 6
 ·rw [refStmt, varB, h]; rfl
 by_cases h1 : t.kind = 10
 ·rw [refStmt, blockB, h1]; rfl
 by_cases h2 : t.kind = 18
 ·rw [refStmt, ifB, h2]; rfl
 by_cases h3 : t.kind = 22
 ·rw [refStmt, h3]; rfl
 rw [Vq, locB]
 unfold refStmt textB' formB
 by_cases h4 : t.kind = 11
 ·rw [h4]; exact fl1
 by_cases h5 : t.kind = 12
 ·rw [h5]; exact fl2
 by_cases h6 : t.kind = 16
 ·rw [h6]; exact fl2
 by_cases h7 : t.kind = 13
 ·rw [h7]; refine Eq.trans ?_ (fl1 (X := plainB t) (q := memK [30, 33])); rw [← kindB_or]; rfl
 by_cases h8 : t.kind = 14
 ·rw [h8]; refine Eq.trans ?_ (fl1 (X := plainB t) (q := memK [30])); rw [← Yhc]; rfl
 by_cases h9 : t.kind = 15
 ·rw [h9]; refine Eq.trans ?_ (fl1 (X := plainB t) (q := memK [30])); rw [← Yhc]; rfl
 by_cases h10 : t.kind = 17
 ·rw [h10]; exact fl1
 by_cases h11 : t.kind = 21
 ·rw [h11]; exact fl1
 by_cases h12 : t.kind = 20
 ·rw [h12]; refine Eq.trans (b := (plainB t && decide ((t.kids.length : Int) ≤ 1)) && t.kids.all exprB) rfl ?_
  rw [Bool.and_assoc, ret_len, ← Bool.and_assoc]; rfl
 by_cases h13 : t.kind = 19
 ·rw [h13]
  refine Eq.trans (b := ((plainB t && lenK t 2) && (noneB (kidAt t 0) || exprB (kidAt t 0))) && blockB (kidAt t 1)) rfl (Eq.trans (b := ((plainB t && kidsB t [fun k => expK k || memK [9] k, memK [10]]) && t.kids.all permF)) ?_ rfl)
  rw [Bool.and_assoc (plainB t) (kidsB t _), kids_2, Qf, Qf, Xwa, show exprB (kidAt t 0) = (expK (kidAt t 0).kind && permF (kidAt t 0)) from rfl, or_two, blockB]
  ac_rfl
 simp only [stK, anyK, decide_eq_false h, decide_eq_false h1, decide_eq_false h2, decide_eq_false h3, decide_eq_false h4, decide_eq_false h5, decide_eq_false h6, decide_eq_false h7, decide_eq_false h8, decide_eq_false h9, decide_eq_false h10, decide_eq_false h11, decide_eq_false h12, decide_eq_false h13, Bool.or_false, cond_false, Bool.false_and]
end Go.Rk
