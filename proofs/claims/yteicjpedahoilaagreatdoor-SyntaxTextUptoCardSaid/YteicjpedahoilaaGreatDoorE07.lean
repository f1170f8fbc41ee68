/- Merged texts of one road: SynF, SynG, SynH, Max. Conditions: each text's own. -/
import Derived.Test.YteicjpedahoilaaGreatDoorE06
import Derived.Test.YteicjpedahoilaaGreatDoorE01
set_option linter.unusedSimpArgs false
set_option linter.unusedVariables false
namespace Go.Rk
open Go Go.RowKit
structure ROk (t : Nd) : Prop where
  ex : ∀ (p : Option Addr) (c : Nat) (D : Nat → Prop) (w : World), Kd w D t.kids (.slice p t.kids.length c) → Ret PP Yab #[ndV t (.slice p t.kids.length c)] w fun r w' => r = .bool (exprB t) ∧ G w w'
  bl : ∀ (p : Option Addr) (c : Nat) (D : Nat → Prop) (w : World), Kd w D t.kids (.slice p t.kids.length c) → Ret PP Qwa #[ndV t (.slice p t.kids.length c)] w fun r w' => r = .bool (blockB t) ∧ G w w'
  st : ∀ (p : Option Addr) (c : Nat) (D : Nat → Prop) (w : World), Kd w D t.kids (.slice p t.kids.length c) → Ret PP Ydb #[ndV t (.slice p t.kids.length c)] w fun r w' => r = .bool (stmtB t) ∧ G w w'
  fi : ∀ (p : Option Addr) (c : Nat) (D : Nat → Prop) (w : World), Kd w D t.kids (.slice p t.kids.length c) → Ret PP Udb #[ndV t (.slice p t.kids.length c)] w fun r w' => r = .bool (ifB t) ∧ G w w'
  cm : ∀ (p : Option Addr) (c : Nat) (D : Nat → Prop) (w : World), Kd w D t.kids (.slice p t.kids.length c) → Ret PP Yeb #[ndV t (.slice p t.kids.length c)] w fun r w' => r = .bool (commF t) ∧ G w w'
def Blw (t : Nd) : Prop := ∀ k, count k < count t → ROk k
theorem Blw.kid {t : Nd} (ih : Blw t) {i : Nat} (h : i < t.kids.length) : ROk (kidAt t i) := by
  refine ih _ ?_
  rw [Xu h]
  have := Xz (List.getElem_mem h); omega
theorem Yib {w : World} {D : Nat → Prop} {t : Nd} {p : Option Addr} {c : Nat} (hk : Kd w D t.kids (.slice p t.kids.length c)) (ih : Blw t) (i : Nat) : ∃ p' c', i < t.kids.length → p = some ⟨pb p, po p, none⟩ ∧ RowAt w (pb p) (po p + i * 9) (ndCells (kidAt t i) (.slice p' (kidAt t i).kids.length c')) ∧ Kd w D (kidAt t i).kids (.slice p' (kidAt t i).kids.length c') ∧ ROk (kidAt t i) := by
  obtain ⟨p', c', h⟩ := Jdb hk i
  exact ⟨p', c', fun hi => ⟨(h hi).1, (h hi).2.1, (h hi).2.2, ih.kid hi⟩⟩
theorem Zfb (t : Nd) (p : Option Addr) (c : Nat) (w : World) : Ret PP fn_r03_isNone #[ndV t (.slice p t.kids.length c)] w fun r w' => r = .bool (noneB t) ∧ G w w' := by
  have g := G.refl w
  refine Ym (m := 17) Qab rfl rfl [(0, True, _)] (Za rfl (Zd _)) ?_
  refine Zg fun K1 hK1 => ?_
  refine Zf [1, 3] ?_
  refine Wd rfl (Zb rfl) rfl ?_
  intro b1 w1 N1
  have l1 := N1.ge g
  have g := g.trans (N1.g)
  have B1 := N1.blk
  refine Zc rfl (fun _ => Ze Zl) ?_
  refine Zj [(1, _, _), (2, _, _)] (Za rfl (Za rfl (Zd _))) ?_
  refine Zh (hK1 _ _ ?_)
  refine Zg fun K2 hK2 => ?_
  refine Zf [3, 0, 3, 3, 3, 0, 3, 3, 3, 3, 0, 3, 3, 3, 3] ?_
  refine Zc rfl (fun _ => Zm Ys (Zb rfl)) ?_
  refine Ya rfl (Zt Yy (Zb rfl) (fun _ => B1.at_ rfl)) ?_
  refine Zc rfl (fun _ => Yg (Zb rfl) Zl) ?_
  refine Zc rfl (fun _ => Zi (Zb rfl)) ?_
  refine Zs rfl rfl rfl (fun _ => Zm Yw (Zb rfl)) ?_
  refine Yr rfl rfl rfl (Zt Yt (Zy rfl id) (fun _ => B1.at_ rfl)) ?_
  refine Zs rfl rfl rfl (fun _ => Yh (Zy rfl id) Zl) ?_
  refine Zc rfl (fun _ => Ye (Zb rfl) (Zy rfl id)) ?_
  refine Zc rfl (fun _ => Zi (Zb rfl)) ?_
  refine Zs rfl rfl rfl (fun _ => Zm Zv (Zb rfl)) ?_
  refine Yr rfl rfl rfl (Zt Zq (Zy rfl id) (fun _ => B1.at_ rfl)) ?_
  refine Zs rfl rfl rfl (fun _ => Xx Zo (Zy rfl id)) ?_
  refine Zs rfl rfl rfl (fun _ => Yg (Zy rfl id) Zl) ?_
  refine Zc rfl (fun _ => Ye (Zb rfl) (Zy rfl id)) ?_
  refine Zc rfl (fun _ => Ze (Zb rfl)) ?_
  refine Zj [(2, _, _)] (Za rfl (Zd _)) ?_
  refine Zh (hK2 _ _ ?_)
  refine Yf (Yj rfl rfl ?_)
  exact ⟨rfl, g⟩
theorem Jsa (l : List Nd) (p : Option Addr) (c : Nat) (D : Nat → Prop) (w : World) (hk : Kd w D l (.slice p l.length c)) (hr : ∀ k ∈ l, ROk k) (hln : l.length ≤ 1000000) : Ret PP Ymb #[.slice p l.length c] w fun r w' => r = .bool (l.all exprB) ∧ G w w' := by
  have g := G.refl w
  obtain ⟨p', c', hpe, _, hks⟩ := hk
  injection hpe with hpe _ hce
  subst hpe hce
  refine Ym (m := 16) Qxa rfl rfl [(0, True, _)] (Za rfl (Zd _)) ?_
  refine Zg fun K1 hK1 => ?_
  refine Zf [3] ?_
  refine Zc rfl (fun _ => Ze Zl) ?_
  refine Zh (hK1 _ _ ?_)
  refine Zg fun K2 hK2 => ?_
  refine Zg fun K3 hK3 => ?_
  refine Zf [3] ?_
  refine Zc rfl (fun _ => Ze Zl) ?_
  refine Zh (hK3 _ _ ?_)
  refine Yp ?_
  refine Wv (fun (i : Nat) u1 => (i ≤ l.length ∧ ∀ j, (h : j < l.length) → j < i → exprB l[j] = true) ∧ G w u1) [(0, True, _)] (fun (i : Nat) => [(3, True, .int .i64 i)]) (fun (i : Nat) => l.length - i) (0) ⟨⟨Nat.zero_le _, fun j _ hj => absurd hj (Nat.not_lt_zero j)⟩, G.refl _⟩ (Za rfl (Za rfl (Zd _))) ?_
  rintro i u1 ⟨hI1, gl1⟩
  have g := g.trans gl1
  refine Zg fun K4 hK4 => ?_
  refine Zg fun K5 hK5 => ?_
  refine Zf [3, 3, 3, 3] ?_
  refine Zc rfl (fun _ => Zi (Zb rfl)) ?_
  refine Zc rfl (fun _ => Zi (Zb rfl)) ?_
  refine Zc rfl (fun _ => Xx Zo (Zb rfl)) ?_
  refine Zc rfl (fun _ => Vh (Zb rfl) (Zb rfl)) ?_
  refine Zj [(0, _, _), (3, _, _), (7, _, _)] (Za rfl (Za rfl (Za rfl (Zd _)))) ?_
  refine Zh (hK5 _ _ ?_)
  refine Zz (Zb rfl) (fun h1 => ?_) (fun h1 => ?_)
  · replace h1 : i < l.length := by simp only [decide_eq_true_eq] at h1; omega
    obtain ⟨b, o, rfl, hD, xs, hR, hX⟩ := hks (by omega)
    obtain ⟨p', c', hcell, hkid⟩ := Yna hR hX h1
    refine Yq (hK4 _ _ ?_)
    refine Yi [(0, _, _), (3, _, _)] (Za rfl (Za rfl (Zd _))) ?_
    refine Zg fun K6 hK6 => ?_
    refine Yp ?_
    refine Zg fun K7 hK7 => ?_
    refine Zf [3, 3, 3, 0, 1, 3] ?_
    refine Zc rfl (fun _ => Zi (Zb rfl)) ?_
    refine Zc rfl (fun _ => Zi (Zb rfl)) ?_
    refine Zc rfl (fun _ => Uc Zo (Zb rfl) (Zb rfl) (fun _ => by omega)) ?_
    refine Ya rfl (Yb Zr (Zb rfl) rfl (fun _ => hcell.grow g)) ?_
    refine Xe rfl (Zu Vk Yl (Zk (Zb rfl) (Zn)) rfl) ((hr _ (List.getElem_mem h1)).ex _ _ D _ (hkid.grow g)) (fun w14 g14 => ?_)
    have g := g.trans (g14)
    try have gl1 := gl1.trans (g14)
    refine Zc rfl (fun _ => Ub (Zb rfl)) ?_
    refine Zj [(0, _, _), (3, _, _), (15, _, _)] (Za rfl (Za rfl (Za rfl (Zd _)))) ?_
    refine Zh (hK7 _ _ ?_)
    refine Zz (Zb rfl) (fun h2 => ?_) (fun h2 => ?_)
    · (try simp only [bsimp] at h2)
      refine Zg fun K8 hK8 => ?_
      refine Zf [3] ?_
      refine Zc rfl (fun _ => Ze Zl) ?_
      refine Zj [(0, _, _), (2, _, _), (3, _, _)] (Za rfl (Za rfl (Za rfl (Zd _)))) ?_
      refine Zh (hK8 _ _ ?_)
      refine Yf (Yj rfl rfl ?_)
      refine ⟨congrArg Value.bool ?_, g⟩
      rw [eq_comm, List.all_eq_false]
      exact ⟨_, List.getElem_mem h1, by simpa using h2⟩
    (try simp only [bsimp] at h2)
    refine Yq (hK6 _ _ ?_)
    refine Yi [(0, _, _), (3, _, _)] (Za rfl (Za rfl (Zd _))) ?_
    refine Zf [3, 3, 3] ?_
    refine Zc rfl (fun _ => Zi (Zb rfl)) ?_
    refine Zc rfl (fun _ => Xq (Zb rfl) Zl (fun _ => by omega)) ?_
    refine Zc rfl (fun _ => Ze (Zb rfl)) ?_
    refine Zj [(3, _, _), (0, _, _)] (Za rfl (Za rfl (Zd _))) ?_
    refine Zh (fun a ha => ?_)
    refine ⟨i + 1, ha, ⟨⟨h1, fun j h hj => ?_⟩, gl1⟩, by omega⟩
    by_cases e : j = i
    · subst e; simpa using h2
    · exact hI1.2 j h (by omega)
  (try simp only [bsimp] at h1)
  refine Wa rfl (hK2 _ _ ?_)
  refine Yi [] (Zd _) ?_
  refine Zg fun K9 hK9 => ?_
  refine Zf [3] ?_
  refine Zc rfl (fun _ => Ze Zl) ?_
  refine Zh (hK9 _ _ ?_)
  refine Yf (Yj rfl rfl ?_)
  refine ⟨congrArg Value.bool ?_, g⟩
  rw [eq_comm, List.all_eq_true]
  intro x hx
  obtain ⟨j, hj, rfl⟩ := List.getElem_of_mem hx
  exact hI1.2 j hj (by simp only [decide_eq_false_iff_not] at h1; omega)
theorem kind_ok (t : Nd) (n : Int) (p : Option Addr) (c : Nat) (D : Nat → Prop) (w : World) (hk : Kd w D t.kids (.slice p t.kids.length c)) (h : ROk t) : Ret PP fn_r03_kind #[ndV t (.slice p t.kids.length c), .int .i64 n] w fun r w' => r = .bool (kindB t n) ∧ G w w' := by
  have g := G.refl w
  refine Ym (m := 13) func_r03_kind rfl rfl [(0, True, _), (1, True, _)] (Za rfl (Za rfl (Zd _))) ?_
  refine Zg fun K1 hK1 => ?_
  refine Zf [1, 3] ?_
  refine Wd rfl (Zb rfl) rfl ?_
  intro b2 w2 N2
  have l2 := N2.ge g
  have g := g.trans (N2.g)
  have B2 := N2.blk
  refine Zc rfl (fun _ => Ze Zl) ?_
  refine Zj [(1, _, _), (2, _, _), (4, _, _)] (Za rfl (Za rfl (Za rfl (Zd _)))) ?_
  refine Zh (hK1 _ _ ?_)
  refine Zg fun K2 hK2 => ?_
  refine Zf [3, 0, 3, 3, 3, 0, 1, 3, 3] ?_
  refine Zc rfl (fun _ => Zm Ys (Zb rfl)) ?_
  refine Ya rfl (Zt Yy (Zb rfl) (fun _ => B2.at_ rfl)) ?_
  refine Zc rfl (fun _ => Zi (Zb rfl)) ?_
  refine Zc rfl (fun _ => Yg (Zb rfl) (Zb rfl)) ?_
  refine Zc rfl (fun _ => Zi (Zb rfl)) ?_
  refine Yr rfl rfl rfl (Yb Zr (Zb rfl) rfl (fun _ => B2.row)) ?_
  refine Xb rfl rfl rfl (fun _ => (Zu Vk Yl (Zk (Zy rfl id) (Zn)) rfl)) (fun hc => h.ex _ _ D _ (hk.grow g)) (fun w11 g11 => ?_)
  have g := g.trans (g11)
  replace B2 := B2.grow (g11)
  refine Zc rfl (fun _ => Ye (Zb rfl) (Zy rfl id)) ?_
  refine Zc rfl (fun _ => Ze (Zb rfl)) ?_
  refine Zj [(4, _, _)] (Za rfl (Zd _)) ?_
  refine Zh (hK2 _ _ ?_)
  refine Yf (Yj rfl rfl ?_)
  exact ⟨rfl, g⟩
theorem isexpr_ok (t : Nd) (p : Option Addr) (c : Nat) (D : Nat → Prop) (w : World) (hk : Kd w D t.kids (.slice p t.kids.length c)) (ih : Blw t) (hln : t.kids.length ≤ 1000000) : Ret PP Yab #[ndV t (.slice p t.kids.length c)] w fun r w' => r = .bool (exprB t) ∧ G w w' := by
  rw [← Ve]
  have g := G.refl w
  obtain ⟨p0, c0, h0x⟩ := Yib hk ih 0
  have hr : ∀ k ∈ t.kids, ROk k := fun k hk => ih k (Xz hk)
  refine Ym (m := 165) Uyb rfl rfl [(0, True, _)] (Za rfl (Zd _)) ?_
  refine Zg fun K1 hK1 => ?_
  refine Zf [1, 3] ?_
  refine Wd rfl (Zb rfl) rfl ?_
  intro b1 w1 N1
  have l1 := N1.ge g
  have g := g.trans (N1.g)
  have B1 := N1.blk
  refine Zc rfl (fun _ => Ze Zl) ?_
  refine Zj [(1, _, _), (2, _, _)] (Za rfl (Za rfl (Zd _))) ?_
  refine Zh (hK1 _ _ ?_)
  refine Zg fun K2 hK2 => ?_
  refine Zf [3, 0, 3, 3] ?_
  refine Zc rfl (fun _ => Zm Zv (Zb rfl)) ?_
  refine Ya rfl (Zt Zq (Zb rfl) (fun _ => B1.at_ rfl)) ?_
  refine Zc rfl (fun _ => Xx Zo (Zb rfl)) ?_
  refine Zc rfl (fun _ => Ze (Zb rfl)) ?_
  refine Zj [(1, _, _), (2, _, _), (3, _, _)] (Za rfl (Za rfl (Za rfl (Zd _)))) ?_
  refine Zh (hK2 _ _ ?_)
  refine Zg fun K3 hK3 => ?_
  refine Zf [3, 0, 3, 3] ?_
  refine Zc rfl (fun _ => Zm Yw (Zb rfl)) ?_
  refine Ya rfl (Zt Yt (Zb rfl) (fun _ => B1.at_ rfl)) ?_
  refine Zc rfl (fun _ => Yh (Zb rfl) Zl) ?_
  refine Zc rfl (fun _ => Ze (Zb rfl)) ?_
  refine Zj [(1, _, _), (2, _, _), (3, _, _), (4, _, _)] (Za rfl (Za rfl (Za rfl (Za rfl (Zd _))))) ?_
  refine Zh (hK3 _ _ ?_)
  refine Zg fun K4 hK4 => ?_
  refine Zg fun K5 hK5 => ?_
  refine Zf [3, 0] ?_
  refine Zc rfl (fun _ => Zm Ys (Zb rfl)) ?_
  refine Ya rfl (Zt Yy (Zb rfl) (fun _ => B1.at_ rfl)) ?_
  refine Zj [(1, _, _), (2, _, _), (3, _, _), (4, _, _), (12, _, _)] (Za rfl (Za rfl (Za rfl (Za rfl (Za rfl (Zd _)))))) ?_
  refine Zh (hK5 _ _ ?_)
  refine Yp ?_
  refine Zg fun K6 hK6 => ?_
  refine Zf [3, 3] ?_
  refine Zc rfl (fun _ => Yg (Zb rfl) Zl) ?_
  refine Zc rfl (fun _ => Ze (Zb rfl)) ?_
  refine Zj [(1, _, _), (2, _, _), (3, _, _), (4, _, _), (12, _, _), (13, _, _)] (Za rfl (Za rfl (Za rfl (Za rfl (Za rfl (Za rfl (Zd _))))))) ?_
  refine Zh (hK6 _ _ ?_)
  refine Zz (Zb rfl) (fun h1 => ?_) (fun h1 => ?_)
  · (try simp only [bsimp] at h1)
    refine Zg fun K7 hK7 => ?_
    refine Zf [3, 3, 3, 3, 3, 3, 3, 0, 3, 3, 3] ?_
    refine Zc rfl (fun _ => Zi (Zb rfl)) ?_
    refine Zc rfl (fun _ => Zi (Zb rfl)) ?_
    refine Zs rfl rfl rfl (fun _ => Zi (Zb rfl)) ?_
    refine Zs rfl rfl rfl (fun _ => Yg (Zy rfl id) Zl) ?_
    refine Zc rfl (fun _ => Ye (Zb rfl) (Zy rfl id)) ?_
    refine Zc rfl (fun _ => Zi (Zb rfl)) ?_
    refine Zs rfl rfl rfl (fun _ => Zm Wy (Zb rfl)) ?_
    refine Yr rfl rfl rfl (Zt Yy (Zy rfl id) (fun _ => B1.at_ rfl)) ?_
    refine Zs rfl rfl rfl (fun _ => Wla (Zy rfl id) Zl) ?_
    refine Zc rfl (fun _ => Ye (Zb rfl) (Zy rfl id)) ?_
    refine Zc rfl (fun _ => Ze (Zb rfl)) ?_
    refine Zj [(2, _, _)] (Za rfl (Zd _)) ?_
    refine Zh (hK7 _ _ ?_)
    refine Yf (Yj rfl rfl ?_)
    refine ⟨congrArg Value.bool ?_, g⟩
    unfold Wx; simp only [anyK, h1, cond_true, cond_false] <;> rfl
  (try simp only [bsimp] at h1)
  refine Zg fun K8 hK8 => ?_
  refine Zf [3, 3] ?_
  refine Zc rfl (fun _ => Yg (Zb rfl) Zl) ?_
  refine Zc rfl (fun _ => Ze (Zb rfl)) ?_
  refine Zj [(1, _, _), (2, _, _), (3, _, _), (4, _, _), (12, _, _), (25, _, _)] (Za rfl (Za rfl (Za rfl (Za rfl (Za rfl (Za rfl (Zd _))))))) ?_
  refine Zh (hK8 _ _ ?_)
  refine Zz (Zb rfl) (fun h2 => ?_) (fun h2 => ?_)
  · (try simp only [bsimp] at h2)
    refine Zg fun K9 hK9 => ?_
    refine Zf [3, 3, 3, 3, 3, 3, 3, 0, 3, 3, 3, 0, 3, 3, 3, 3] ?_
    refine Zc rfl (fun _ => Zi (Zb rfl)) ?_
    refine Zc rfl (fun _ => Zi (Zb rfl)) ?_
    refine Zs rfl rfl rfl (fun _ => Zi (Zb rfl)) ?_
    refine Zs rfl rfl rfl (fun _ => Yg (Zy rfl id) Zl) ?_
    refine Zc rfl (fun _ => Ye (Zb rfl) (Zy rfl id)) ?_
    refine Zc rfl (fun _ => Zi (Zb rfl)) ?_
    refine Zs rfl rfl rfl (fun _ => Zm Wy (Zb rfl)) ?_
    refine Yr rfl rfl rfl (Zt Yy (Zy rfl id) (fun _ => B1.at_ rfl)) ?_
    refine Zs rfl rfl rfl (fun _ => Yg (Zy rfl id) Zl) ?_
    refine Zs rfl rfl rfl (fun _ => Zi (Zy rfl id)) ?_
    refine Zs rfl rfl rfl (fun _ => Zm Wy (Zb rfl)) ?_
    refine Yr rfl rfl rfl (Zt Yy (Zy rfl id) (fun _ => B1.at_ rfl)) ?_
    refine Zs rfl rfl rfl (fun _ => Yg (Zy rfl id) Zl) ?_
    refine Zs rfl rfl rfl (fun _ => Yz (Zy rfl id) (Zy rfl id)) ?_
    refine Zc rfl (fun _ => Ye (Zb rfl) (Zy rfl id)) ?_
    refine Zc rfl (fun _ => Ze (Zb rfl)) ?_
    refine Zj [(2, _, _)] (Za rfl (Zd _)) ?_
    refine Zh (hK9 _ _ ?_)
    refine Yf (Yj rfl rfl ?_)
    refine ⟨congrArg Value.bool ?_, g⟩
    unfold Wx; simp only [anyK, h1, h2, cond_true, cond_false] <;> rfl
  (try simp only [bsimp] at h2)
  refine Zg fun K10 hK10 => ?_
  refine Zf [3, 3] ?_
  refine Zc rfl (fun _ => Yg (Zb rfl) Zl) ?_
  refine Zc rfl (fun _ => Ze (Zb rfl)) ?_
  refine Zj [(1, _, _), (2, _, _), (3, _, _), (4, _, _), (12, _, _), (42, _, _)] (Za rfl (Za rfl (Za rfl (Za rfl (Za rfl (Za rfl (Zd _))))))) ?_
  refine Zh (hK10 _ _ ?_)
  refine Zz (Zb rfl) (fun h3 => ?_) (fun h3 => ?_)
  · (try simp only [bsimp] at h3)
    refine Zg fun K11 hK11 => ?_
    refine Zf [3, 3, 3, 3, 3, 3] ?_
    refine Zc rfl (fun _ => Zi (Zb rfl)) ?_
    refine Zc rfl (fun _ => Zi (Zb rfl)) ?_
    refine Zs rfl rfl rfl (fun _ => Zi (Zb rfl)) ?_
    refine Zs rfl rfl rfl (fun _ => Yg (Zy rfl id) Zl) ?_
    refine Zc rfl (fun _ => Ye (Zb rfl) (Zy rfl id)) ?_
    refine Zc rfl (fun _ => Ze (Zb rfl)) ?_
    refine Zj [(2, _, _)] (Za rfl (Zd _)) ?_
    refine Zh (hK11 _ _ ?_)
    refine Yf (Yj rfl rfl ?_)
    refine ⟨congrArg Value.bool ?_, g⟩
    unfold Wx; simp only [anyK, h1, h2, h3, cond_true, cond_false] <;> rfl
  (try simp only [bsimp] at h3)
  refine Zg fun K12 hK12 => ?_
  refine Zg fun K13 hK13 => ?_
  refine Zf [3, 3] ?_
  refine Zc rfl (fun _ => Yg (Zb rfl) Zl) ?_
  refine Zc rfl (fun _ => Ze (Zb rfl)) ?_
  refine Zj [(1, _, _), (2, _, _), (3, _, _), (4, _, _), (12, _, _), (49, _, _)] (Za rfl (Za rfl (Za rfl (Za rfl (Za rfl (Za rfl (Zd _))))))) ?_
  refine Zh (hK13 _ _ ?_)
  refine' Yk [(1, _, _), (2, _, _), (3, _, _), (4, _, _), (12, _, _)] (Za rfl (Za rfl (Za rfl (Za rfl (Za rfl (Za rfl (Zd _))))))) rfl (fun hb4 => ?y4) (hK12 _ _ ?n4)
  case y4 =>
   refine Zf [3, 3] ?_
   refine Zc rfl (fun _ => Yg (Zb rfl) Zl) ?_
   refine Zc rfl (fun _ => Ze (Zb rfl)) ?_
   refine Zj [(49, _, _), (1, _, _), (2, _, _), (3, _, _), (4, _, _), (12, _, _)] (Za rfl (Za rfl (Za rfl (Za rfl (Za rfl (Za rfl (Zd _))))))) ?_
   exact Zh (fun a ha => ⟨ha, rfl⟩)
  case n4 =>
   refine Zz (Zb rfl) (fun h5 => ?_) (fun h5 => ?_)
   · (try simp only [bsimp] at h5)
     refine Zg fun K14 hK14 => ?_
     refine Zf [3, 0, 1, 3, 3, 3, 3, 3] ?_
     refine Zc rfl (fun _ => Zm Yw (Zb rfl)) ?_
     refine Ya rfl (Zt Yt (Zb rfl) (fun _ => B1.at_ rfl)) ?_
     refine Xe rfl (Zu Qj Yl (Zk (Zb rfl) (Zn)) rfl) (Yoa _ _) (fun w54 g54 => ?_)
     have g := g.trans (g54)
     replace B1 := B1.grow (g54)
     refine Zc rfl (fun _ => Zi (Zb rfl)) ?_
     refine Zs rfl rfl rfl (fun _ => Zi (Zb rfl)) ?_
     refine Zs rfl rfl rfl (fun _ => Yg (Zy rfl id) Zl) ?_
     refine Zc rfl (fun _ => Ye (Zb rfl) (Zy rfl id)) ?_
     refine Zc rfl (fun _ => Ze (Zb rfl)) ?_
     refine Zj [(2, _, _)] (Za rfl (Zd _)) ?_
     refine Zh (hK14 _ _ ?_)
     refine Yf (Yj rfl rfl ?_)
     refine ⟨congrArg Value.bool ?_, g⟩
     unfold Wx; simp only [anyK, h1, h2, h3, h5, cond_true, cond_false] <;> rfl
   (try simp only [bsimp] at h5)
   refine Zg fun K15 hK15 => ?_
   refine Zf [3, 3] ?_
   refine Zc rfl (fun _ => Yg (Zb rfl) Zl) ?_
   refine Zc rfl (fun _ => Ze (Zb rfl)) ?_
   refine Zj [(1, _, _), (2, _, _), (3, _, _), (4, _, _), (12, _, _), (59, _, _)] (Za rfl (Za rfl (Za rfl (Za rfl (Za rfl (Za rfl (Zd _))))))) ?_
   refine Zh (hK15 _ _ ?_)
   refine Zz (Zb rfl) (fun h6 => ?_) (fun h6 => ?_)
   · (try simp only [bsimp] at h6)
     refine Zg fun K16 hK16 => ?_
     refine Zf [3, 0, 1, 3, 3, 3, 3, 3, 3, 0, 3, 0, 1, 3, 3] ?_
     refine Zc rfl (fun _ => Zm Yw (Zb rfl)) ?_
     refine Ya rfl (Zt Yt (Zb rfl) (fun _ => B1.at_ rfl)) ?_
     refine Xe rfl (Zu Qj Yl (Zk (Zb rfl) (Zn)) rfl) (Yoa _ _) (fun w63 g63 => ?_)
     have g := g.trans (g63)
     replace B1 := B1.grow (g63)
     refine Zc rfl (fun _ => Zi (Zb rfl)) ?_
     refine Zs rfl rfl rfl (fun _ => Zi (Zb rfl)) ?_
     refine Zs rfl rfl rfl (fun _ => Yg (Zy rfl id) Zl) ?_
     refine Zc rfl (fun _ => Ye (Zb rfl) (Zy rfl id)) ?_
     refine Zc rfl (fun _ => Zi (Zb rfl)) ?_
     refine Zs rfl rfl rfl (fun _ => Zm Zv (Zb rfl)) ?_
     refine Yr rfl rfl rfl (Zt Zq (Zy rfl id) (fun _ => B1.at_ rfl)) ?_
     refine Zs rfl rfl rfl (fun _ => Xc Zo (Zy rfl id) Zl (fun hc => by (have hz := hc.2; first | (unfold lenK at hz; simp at hz; omega) | (simp at hz; omega))) (fun hc => (h0x (by (have hz := hc.2; first | (unfold lenK at hz; simp at hz; omega) | (simp at hz; omega)))).1)) ?_
     refine Yr rfl rfl rfl (Yb Zr (Zy rfl id) rfl (fun hc => (h0x (by (have hz := hc.2; first | (unfold lenK at hz; simp at hz; omega) | (simp at hz; omega)))).2.1.grow g)) ?_
     refine Xb rfl rfl rfl (fun _ => (Zu Vk Yl (Zk (Zy rfl id) (Zn)) rfl)) (fun hc => (h0x (by (have hz := hc.2; first | (unfold lenK at hz; simp at hz; omega) | (simp at hz; omega)))).2.2.2.ex _ _ D _ ((h0x (by (have hz := hc.2; first | (unfold lenK at hz; simp at hz; omega) | (simp at hz; omega)))).2.2.1.grow g)) (fun w73 g73 => ?_)
     have g := g.trans (g73)
     replace B1 := B1.grow (g73)
     refine Zc rfl (fun _ => Ye (Zb rfl) (Zy rfl id)) ?_
     refine Zc rfl (fun _ => Ze (Zb rfl)) ?_
     refine Zj [(2, _, _)] (Za rfl (Zd _)) ?_
     refine Zh (hK16 _ _ ?_)
     refine Yf (Yj rfl rfl ?_)
     refine ⟨congrArg Value.bool ?_, g⟩
     unfold Wx; simp only [anyK, h1, h2, h3, h5, h6, cond_true, cond_false] <;> rfl
   (try simp only [bsimp] at h6)
   refine Zg fun K17 hK17 => ?_
   refine Zf [3, 3] ?_
   refine Zc rfl (fun _ => Yg (Zb rfl) Zl) ?_
   refine Zc rfl (fun _ => Ze (Zb rfl)) ?_
   refine Zj [(1, _, _), (2, _, _), (3, _, _), (4, _, _), (12, _, _), (75, _, _)] (Za rfl (Za rfl (Za rfl (Za rfl (Za rfl (Za rfl (Zd _))))))) ?_
   refine Zh (hK17 _ _ ?_)
   refine Zz (Zb rfl) (fun h7 => ?_) (fun h7 => ?_)
   · (try simp only [bsimp] at h7)
     refine Zg fun K18 hK18 => ?_
     refine Zf [3, 3, 3, 3, 3, 3, 3, 0, 1, 3, 3] ?_
     refine Zc rfl (fun _ => Zi (Zb rfl)) ?_
     refine Zc rfl (fun _ => Zi (Zb rfl)) ?_
     refine Zs rfl rfl rfl (fun _ => Zi (Zb rfl)) ?_
     refine Zs rfl rfl rfl (fun _ => Yg (Zy rfl id) Zl) ?_
     refine Zc rfl (fun _ => Ye (Zb rfl) (Zy rfl id)) ?_
     refine Zc rfl (fun _ => Zi (Zb rfl)) ?_
     refine Zs rfl rfl rfl (fun _ => Zm Zv (Zb rfl)) ?_
     refine Yr rfl rfl rfl (Zt Zq (Zy rfl id) (fun _ => B1.at_ rfl)) ?_
     refine Xb rfl rfl rfl (fun _ => (Zu Uo Yl (Zk (Zy rfl id) (Zn)) rfl)) (fun hc => Jsa _ _ _ D _ (hk.grow g) hr hln) (fun w85 g85 => ?_)
     have g := g.trans (g85)
     replace B1 := B1.grow (g85)
     refine Zc rfl (fun _ => Ye (Zb rfl) (Zy rfl id)) ?_
     refine Zc rfl (fun _ => Ze (Zb rfl)) ?_
     refine Zj [(2, _, _)] (Za rfl (Zd _)) ?_
     refine Zh (hK18 _ _ ?_)
     refine Yf (Yj rfl rfl ?_)
     refine ⟨congrArg Value.bool ?_, g⟩
     unfold Wx; simp only [anyK, h1, h2, h3, h5, h6, h7, cond_true, cond_false] <;> rfl
   (try simp only [bsimp] at h7)
   refine Zg fun K19 hK19 => ?_
   refine Zf [3, 3] ?_
   refine Zc rfl (fun _ => Yg (Zb rfl) Zl) ?_
   refine Zc rfl (fun _ => Ze (Zb rfl)) ?_
   refine Zj [(1, _, _), (2, _, _), (3, _, _), (4, _, _), (12, _, _), (87, _, _)] (Za rfl (Za rfl (Za rfl (Za rfl (Za rfl (Za rfl (Zd _))))))) ?_
   refine Zh (hK19 _ _ ?_)
   refine Zz (Zb rfl) (fun h8 => ?_) (fun h8 => ?_)
   · (try simp only [bsimp] at h8)
     refine Zg fun K20 hK20 => ?_
     refine Zf [3, 3, 3, 3, 3, 3, 3, 0, 1, 3, 3] ?_
     refine Zc rfl (fun _ => Zi (Zb rfl)) ?_
     refine Zc rfl (fun _ => Zi (Zb rfl)) ?_
     refine Zs rfl rfl rfl (fun _ => Zi (Zb rfl)) ?_
     refine Zs rfl rfl rfl (fun _ => Wla (Zy rfl id) Zl) ?_
     refine Zc rfl (fun _ => Ye (Zb rfl) (Zy rfl id)) ?_
     refine Zc rfl (fun _ => Zi (Zb rfl)) ?_
     refine Zs rfl rfl rfl (fun _ => Zm Zv (Zb rfl)) ?_
     refine Yr rfl rfl rfl (Zt Zq (Zy rfl id) (fun _ => B1.at_ rfl)) ?_
     refine Xb rfl rfl rfl (fun _ => (Zu Uo Yl (Zk (Zy rfl id) (Zn)) rfl)) (fun hc => Jsa _ _ _ D _ (hk.grow g) hr hln) (fun w97 g97 => ?_)
     have g := g.trans (g97)
     replace B1 := B1.grow (g97)
     refine Zc rfl (fun _ => Ye (Zb rfl) (Zy rfl id)) ?_
     refine Zc rfl (fun _ => Ze (Zb rfl)) ?_
     refine Zj [(2, _, _)] (Za rfl (Zd _)) ?_
     refine Zh (hK20 _ _ ?_)
     refine Yf (Yj rfl rfl ?_)
     refine ⟨congrArg Value.bool ?_, g⟩
     unfold Wx; simp only [anyK, h1, h2, h3, h5, h6, h7, h8, cond_true, cond_false] <;> rfl
   (try simp only [bsimp] at h8)
   refine Zg fun K21 hK21 => ?_
   refine Zf [3, 3] ?_
   refine Zc rfl (fun _ => Yg (Zb rfl) Zl) ?_
   refine Zc rfl (fun _ => Ze (Zb rfl)) ?_
   refine Zj [(1, _, _), (2, _, _), (3, _, _), (4, _, _), (12, _, _), (99, _, _)] (Za rfl (Za rfl (Za rfl (Za rfl (Za rfl (Za rfl (Zd _))))))) ?_
   refine Zh (hK21 _ _ ?_)
   refine Zz (Zb rfl) (fun h9 => ?_) (fun h9 => ?_)
   · (try simp only [bsimp] at h9)
     refine Zg fun K22 hK22 => ?_
     refine Zf [3, 0, 3, 3, 3, 0, 3, 3, 3, 3, 3, 3, 3, 3, 0, 3, 0, 1, 3, 3] ?_
     refine Zc rfl (fun _ => Zm Yw (Zb rfl)) ?_
     refine Ya rfl (Zt Yt (Zb rfl) (fun _ => B1.at_ rfl)) ?_
     refine Zc rfl (fun _ => Yh (Zb rfl) Zl) ?_
     refine Zc rfl (fun _ => Zi (Zb rfl)) ?_
     refine Zs rfl rfl rfl (fun _ => Zm Yw (Zb rfl)) ?_
     refine Yr rfl rfl rfl (Zt Yt (Zy rfl id) (fun _ => B1.at_ rfl)) ?_
     refine Zs rfl rfl rfl (fun _ => Yh (Zy rfl id) Zl) ?_
     refine Zc rfl (fun _ => Yz (Zb rfl) (Zy rfl id)) ?_
     refine Zc rfl (fun _ => Zi (Zb rfl)) ?_
     refine Zs rfl rfl rfl (fun _ => Zi (Zb rfl)) ?_
     refine Zs rfl rfl rfl (fun _ => Yg (Zy rfl id) Zl) ?_
     refine Zc rfl (fun _ => Ye (Zb rfl) (Zy rfl id)) ?_
     refine Zc rfl (fun _ => Zi (Zb rfl)) ?_
     refine Zs rfl rfl rfl (fun _ => Zm Zv (Zb rfl)) ?_
     refine Yr rfl rfl rfl (Zt Zq (Zy rfl id) (fun _ => B1.at_ rfl)) ?_
     refine Zs rfl rfl rfl (fun _ => Xc Zo (Zy rfl id) Zl (fun hc => by (have hz := hc.2; first | (unfold lenK at hz; simp at hz; omega) | (simp at hz; omega))) (fun hc => (h0x (by (have hz := hc.2; first | (unfold lenK at hz; simp at hz; omega) | (simp at hz; omega)))).1)) ?_
     refine Yr rfl rfl rfl (Yb Zr (Zy rfl id) rfl (fun hc => (h0x (by (have hz := hc.2; first | (unfold lenK at hz; simp at hz; omega) | (simp at hz; omega)))).2.1.grow g)) ?_
     refine Xb rfl rfl rfl (fun _ => (Zu Vk Yl (Zk (Zy rfl id) (Zn)) rfl)) (fun hc => (h0x (by (have hz := hc.2; first | (unfold lenK at hz; simp at hz; omega) | (simp at hz; omega)))).2.2.2.ex _ _ D _ ((h0x (by (have hz := hc.2; first | (unfold lenK at hz; simp at hz; omega) | (simp at hz; omega)))).2.2.1.grow g)) (fun w118 g118 => ?_)
     have g := g.trans (g118)
     replace B1 := B1.grow (g118)
     refine Zc rfl (fun _ => Ye (Zb rfl) (Zy rfl id)) ?_
     refine Zc rfl (fun _ => Ze (Zb rfl)) ?_
     refine Zj [(2, _, _)] (Za rfl (Zd _)) ?_
     refine Zh (hK22 _ _ ?_)
     refine Yf (Yj rfl rfl ?_)
     refine ⟨congrArg Value.bool ?_, g⟩
     unfold Wx; simp only [anyK, h1, h2, h3, h5, h6, h7, h8, h9, cond_true, cond_false] <;> rfl
   (try simp only [bsimp] at h9)
   refine Zg fun K23 hK23 => ?_
   refine Zf [3, 3] ?_
   refine Zc rfl (fun _ => Yg (Zb rfl) Zl) ?_
   refine Zc rfl (fun _ => Ze (Zb rfl)) ?_
   refine Zj [(1, _, _), (2, _, _), (3, _, _), (4, _, _), (12, _, _), (120, _, _)] (Za rfl (Za rfl (Za rfl (Za rfl (Za rfl (Za rfl (Zd _))))))) ?_
   refine Zh (hK23 _ _ ?_)
   refine Zz (Zb rfl) (fun h10 => ?_) (fun h10 => ?_)
   · (try simp only [bsimp] at h10)
     refine Zg fun K24 hK24 => ?_
     refine Zf [3, 0, 1, 3, 3, 3, 3, 3, 3, 0, 1, 3, 3] ?_
     refine Zc rfl (fun _ => Zm Yw (Zb rfl)) ?_
     refine Ya rfl (Zt Yt (Zb rfl) (fun _ => B1.at_ rfl)) ?_
     refine Xe rfl (Zu Qdb Yl (Zk (Zb rfl) (Zn)) rfl) (binop_ok _ _) (fun w124 g124 => ?_)
     have g := g.trans (g124)
     replace B1 := B1.grow (g124)
     refine Zc rfl (fun _ => Zi (Zb rfl)) ?_
     refine Zs rfl rfl rfl (fun _ => Zi (Zb rfl)) ?_
     refine Zs rfl rfl rfl (fun _ => Yg (Zy rfl id) Zl) ?_
     refine Zc rfl (fun _ => Ye (Zb rfl) (Zy rfl id)) ?_
     refine Zc rfl (fun _ => Zi (Zb rfl)) ?_
     refine Zs rfl rfl rfl (fun _ => Zm Zv (Zb rfl)) ?_
     refine Yr rfl rfl rfl (Zt Zq (Zy rfl id) (fun _ => B1.at_ rfl)) ?_
     refine Xb rfl rfl rfl (fun _ => (Zu Uo Yl (Zk (Zy rfl id) (Zn)) rfl)) (fun hc => Jsa _ _ _ D _ (hk.grow g) hr hln) (fun w132 g132 => ?_)
     have g := g.trans (g132)
     replace B1 := B1.grow (g132)
     refine Zc rfl (fun _ => Ye (Zb rfl) (Zy rfl id)) ?_
     refine Zc rfl (fun _ => Ze (Zb rfl)) ?_
     refine Zj [(2, _, _)] (Za rfl (Zd _)) ?_
     refine Zh (hK24 _ _ ?_)
     refine Yf (Yj rfl rfl ?_)
     refine ⟨congrArg Value.bool ?_, g⟩
     unfold Wx; simp only [anyK, h1, h2, h3, h5, h6, h7, h8, h9, h10, cond_true, cond_false] <;> rfl
   (try simp only [bsimp] at h10)
   refine Zg fun K25 hK25 => ?_
   refine Zg fun K26 hK26 => ?_
   refine Zf [3, 3] ?_
   refine Zc rfl (fun _ => Yg (Zb rfl) Zl) ?_
   refine Zc rfl (fun _ => Ze (Zb rfl)) ?_
   refine Zj [(1, _, _), (2, _, _), (3, _, _), (4, _, _), (12, _, _), (134, _, _)] (Za rfl (Za rfl (Za rfl (Za rfl (Za rfl (Za rfl (Zd _))))))) ?_
   refine Zh (hK26 _ _ ?_)
   refine' Yk [(1, _, _), (2, _, _), (3, _, _), (4, _, _), (12, _, _)] (Za rfl (Za rfl (Za rfl (Za rfl (Za rfl (Za rfl (Zd _))))))) rfl (fun hb11 => ?y11) (hK25 _ _ ?n11)
   case y11 =>
    refine Zg fun K27 hK27 => ?_
    refine Zf [3, 3] ?_
    refine Zc rfl (fun _ => Yg (Zb rfl) Zl) ?_
    refine Zc rfl (fun _ => Ze (Zb rfl)) ?_
    refine Zj [(1, _, _), (2, _, _), (3, _, _), (4, _, _), (12, _, _), (134, _, _)] (Za rfl (Za rfl (Za rfl (Za rfl (Za rfl (Za rfl (Zd _))))))) ?_
    refine Zh (hK27 _ _ ?_)
    refine' Yk [(1, _, _), (2, _, _), (3, _, _), (4, _, _), (12, _, _)] (Za rfl (Za rfl (Za rfl (Za rfl (Za rfl (Za rfl (Zd _))))))) rfl (fun hb12 => ?y12) (fun a ha => ⟨ha, rfl⟩)
    case y12 =>
     refine Zg fun K28 hK28 => ?_
     refine Zf [3, 3] ?_
     refine Zc rfl (fun _ => Yg (Zb rfl) Zl) ?_
     refine Zc rfl (fun _ => Ze (Zb rfl)) ?_
     refine Zj [(1, _, _), (2, _, _), (3, _, _), (4, _, _), (12, _, _), (134, _, _)] (Za rfl (Za rfl (Za rfl (Za rfl (Za rfl (Za rfl (Zd _))))))) ?_
     refine Zh (hK28 _ _ ?_)
     refine' Yk [(1, _, _), (2, _, _), (3, _, _), (4, _, _), (12, _, _)] (Za rfl (Za rfl (Za rfl (Za rfl (Za rfl (Za rfl (Zd _))))))) rfl (fun hb13 => ?y13) (fun a ha => ⟨ha, rfl⟩)
     case y13 =>
      refine Zf [3, 3] ?_
      refine Zc rfl (fun _ => Yg (Zb rfl) Zl) ?_
      refine Zc rfl (fun _ => Ze (Zb rfl)) ?_
      refine Zj [(134, _, _), (1, _, _), (2, _, _), (3, _, _), (4, _, _), (12, _, _)] (Za rfl (Za rfl (Za rfl (Za rfl (Za rfl (Za rfl (Zd _))))))) ?_
      exact Zh (fun a ha => ⟨ha, rfl⟩)
   case n11 =>
    refine Zz (Zb rfl) (fun h14 => ?_) (fun h14 => ?_)
    · (try simp only [bsimp] at h14)
      refine Zg fun K29 hK29 => ?_
      refine Zf [3, 3, 3, 3, 3, 3, 3, 0, 3, 0, 1, 3, 3] ?_
      refine Zc rfl (fun _ => Zi (Zb rfl)) ?_
      refine Zc rfl (fun _ => Zi (Zb rfl)) ?_
      refine Zs rfl rfl rfl (fun _ => Zi (Zb rfl)) ?_
      refine Zs rfl rfl rfl (fun _ => Yg (Zy rfl id) Zl) ?_
      refine Zc rfl (fun _ => Ye (Zb rfl) (Zy rfl id)) ?_
      refine Zc rfl (fun _ => Zi (Zb rfl)) ?_
      refine Zs rfl rfl rfl (fun _ => Zm Zv (Zb rfl)) ?_
      refine Yr rfl rfl rfl (Zt Zq (Zy rfl id) (fun _ => B1.at_ rfl)) ?_
      refine Zs rfl rfl rfl (fun _ => Xc Zo (Zy rfl id) Zl (fun hc => by (have hz := hc.2; first | (unfold lenK at hz; simp at hz; omega) | (simp at hz; omega))) (fun hc => (h0x (by (have hz := hc.2; first | (unfold lenK at hz; simp at hz; omega) | (simp at hz; omega)))).1)) ?_
      refine Yr rfl rfl rfl (Yb Zr (Zy rfl id) rfl (fun hc => (h0x (by (have hz := hc.2; first | (unfold lenK at hz; simp at hz; omega) | (simp at hz; omega)))).2.1.grow g)) ?_
      refine Xb rfl rfl rfl (fun _ => (Zu Vk Yl (Zk (Zy rfl id) (Zn)) rfl)) (fun hc => (h0x (by (have hz := hc.2; first | (unfold lenK at hz; simp at hz; omega) | (simp at hz; omega)))).2.2.2.ex _ _ D _ ((h0x (by (have hz := hc.2; first | (unfold lenK at hz; simp at hz; omega) | (simp at hz; omega)))).2.2.1.grow g)) (fun w149 g149 => ?_)
      have g := g.trans (g149)
      replace B1 := B1.grow (g149)
      refine Zc rfl (fun _ => Ye (Zb rfl) (Zy rfl id)) ?_
      refine Zc rfl (fun _ => Ze (Zb rfl)) ?_
      refine Zj [(2, _, _)] (Za rfl (Zd _)) ?_
      refine Zh (hK29 _ _ ?_)
      refine Yf (Yj rfl rfl ?_)
      refine ⟨congrArg Value.bool ?_, g⟩
      unfold Wx; simp only [anyK, h1, h2, h3, h5, h6, h7, h8, h9, h10, h14, cond_true, cond_false] <;> rfl
    (try simp only [bsimp] at h14)
    refine Zg fun K30 hK30 => ?_
    refine Zf [3, 3] ?_
    refine Zc rfl (fun _ => Yg (Zb rfl) Zl) ?_
    refine Zc rfl (fun _ => Ze (Zb rfl)) ?_
    refine Zj [(1, _, _), (2, _, _), (3, _, _), (4, _, _), (151, _, _)] (Za rfl (Za rfl (Za rfl (Za rfl (Za rfl (Zd _)))))) ?_
    refine Zh (hK30 _ _ ?_)
    refine Zz (Zb rfl) (fun h15 => ?_) (fun h15 => ?_)
    · (try simp only [bsimp] at h15)
      refine Zg fun K31 hK31 => ?_
      refine Zf [3, 3, 3, 3, 3, 3, 3, 0, 3, 0, 1, 3, 3] ?_
      refine Zc rfl (fun _ => Zi (Zb rfl)) ?_
      refine Zc rfl (fun _ => Zi (Zb rfl)) ?_
      refine Zs rfl rfl rfl (fun _ => Zi (Zb rfl)) ?_
      refine Zs rfl rfl rfl (fun _ => Yg (Zy rfl id) Zl) ?_
      refine Zc rfl (fun _ => Ye (Zb rfl) (Zy rfl id)) ?_
      refine Zc rfl (fun _ => Zi (Zb rfl)) ?_
      refine Zs rfl rfl rfl (fun _ => Zm Zv (Zb rfl)) ?_
      refine Yr rfl rfl rfl (Zt Zq (Zy rfl id) (fun _ => B1.at_ rfl)) ?_
      refine Zs rfl rfl rfl (fun _ => Xc Zo (Zy rfl id) Zl (fun hc => by (have hz := hc.2; first | (unfold lenK at hz; simp at hz; omega) | (simp at hz; omega))) (fun hc => (h0x (by (have hz := hc.2; first | (unfold lenK at hz; simp at hz; omega) | (simp at hz; omega)))).1)) ?_
      refine Yr rfl rfl rfl (Yb Zr (Zy rfl id) rfl (fun hc => (h0x (by (have hz := hc.2; first | (unfold lenK at hz; simp at hz; omega) | (simp at hz; omega)))).2.1.grow g)) ?_
      refine Xb rfl rfl rfl (fun _ => (Zu Un Yl (Zk (Zy rfl id) (Zn)) rfl)) (fun hc => (h0x (by (have hz := hc.2; first | (unfold lenK at hz; simp at hz; omega) | (simp at hz; omega)))).2.2.2.bl _ _ D _ ((h0x (by (have hz := hc.2; first | (unfold lenK at hz; simp at hz; omega) | (simp at hz; omega)))).2.2.1.grow g)) (fun w163 g163 => ?_)
      have g := g.trans (g163)
      replace B1 := B1.grow (g163)
      refine Zc rfl (fun _ => Ye (Zb rfl) (Zy rfl id)) ?_
      refine Zc rfl (fun _ => Ze (Zb rfl)) ?_
      refine Zj [(2, _, _)] (Za rfl (Zd _)) ?_
      refine Zh (hK31 _ _ ?_)
      refine Yf (Yj rfl rfl ?_)
      refine ⟨congrArg Value.bool ?_, g⟩
      unfold Wx; simp only [anyK, h1, h2, h3, h5, h6, h7, h8, h9, h10, h14, h15, cond_true, cond_false] <;> rfl
    (try simp only [bsimp] at h15)
    refine Yq (hK4 _ _ ?_)
    refine Yi [(2, _, _)] (Za rfl (Zd _)) ?_
    refine Zg fun K32 hK32 => ?_
    refine Zf [3] ?_
    refine Zc rfl (fun _ => Ze Zl) ?_
    refine Zh (hK32 _ _ ?_)
    refine Yf (Yj rfl rfl ?_)
    refine ⟨congrArg Value.bool ?_, g⟩
    unfold Wx; simp only [anyK, h1, h2, h3, h5, h6, h7, h8, h9, h10, h14, h15, cond_true, cond_false] <;> rfl
end Go.Rk
namespace Go.Rk
open Go Go.RowKit
theorem Yic (t : Nd) (p : Option Addr) (c : Nat) (D : Nat → Prop) (w : World) (hk : Kd w D t.kids (.slice p t.kids.length c)) (ih : Blw t) (hln : t.kids.length ≤ 1000000) : Ret PP Qwa #[ndV t (.slice p t.kids.length c)] w fun r w' => r = .bool (blockB t) ∧ G w w' := by
 rw [← Ukb, Wgb]
 have g := G.refl w
 refine Ym (m := 26) Wvb rfl rfl [(0, True, _)] (Za rfl (Zd _)) ?_
 refine Zg fun K1 hK1 => ?_
 refine Zf [1, 3] ?_
 refine Wd rfl (Zb rfl) rfl ?_
 intro b1 w1 N1
 have l1 := N1.ge g
 have g := g.trans (N1.g)
 have B1 := N1.blk
 refine Zc rfl (fun _ => Ze Zl) ?_
 refine Zj [(1, _, _), (2, _, _)] (Za rfl (Za rfl (Zd _))) ?_
 refine Zh (hK1 _ _ ?_)
 refine Zg fun K2 hK2 => ?_
 refine Zg fun K3 hK3 => ?_
 refine Zf [3, 0, 3, 3, 3, 0, 3, 3] ?_
 refine Zc rfl (fun _ => Zm Ys (Zb rfl)) ?_
 refine Ya rfl (Zt Yy (Zb rfl) (fun _ => B1.at_ rfl)) ?_
 refine Zc rfl (fun _ => Qi (Zb rfl) Zl) ?_
 refine Zc rfl (fun _ => Zi (Zb rfl)) ?_
 refine Zs rfl rfl rfl (fun _ => Zm Yw (Zb rfl)) ?_
 refine Yr rfl rfl rfl (Zt Yt (Zy rfl id) (fun _ => B1.at_ rfl)) ?_
 refine Zs rfl rfl rfl (fun _ => Jmb (Zy rfl id) Zl) ?_
 refine Zc rfl (fun _ => Yz (Zb rfl) (Zy rfl id)) ?_
 refine Zj [(1, _, _), (2, _, _), (11, _, _)] (Za rfl (Za rfl (Za rfl (Zd _)))) ?_
 refine Zh (hK3 _ _ ?_)
 refine Zz (Zb rfl) (fun h1 => ?_) (fun h1 => ?_)
 ·replace h1 : (!decide (t.kind = 10) || !plainB t) = true := h1
  refine Zg fun K4 hK4 => ?_
  refine Zf [3] ?_
  refine Zc rfl (fun _ => Ze Zl) ?_
  refine Zj [(1, _, _), (2, _, _)] (Za rfl (Za rfl (Zd _))) ?_
  refine Zh (hK4 _ _ ?_)
  refine Yf (Yj rfl rfl ?_)
  refine ⟨congrArg Value.bool ?_, g⟩
  rw [h1]; rfl
 replace h1 : (!decide (t.kind = 10) || !plainB t) = false := h1
 refine Yq (hK2 _ _ ?_)
 refine Yi [(1, _, _), (2, _, _)] (Za rfl (Za rfl (Zd _))) ?_
 refine Zg fun K5 hK5 => ?_
 refine Zg fun K6 hK6 => ?_
 refine Zf [3] ?_
 refine Zc rfl (fun _ => Ze Zl) ?_
 refine Zh (hK6 _ _ ?_)
 refine Yp ?_
 refine Wv (fun (i : Nat) u1 => (i ≤ t.kids.length ∧ ∀ j, (h : j < t.kids.length) → j < i → stmtB t.kids[j] = true) ∧ G w1 u1) [(1, True, _)] (fun (i : Nat) => [(3, True, .int .i64 i)]) (fun (i : Nat) => t.kids.length - i) (0) ⟨⟨Nat.zero_le _, fun j _ hj => absurd hj (Nat.not_lt_zero j)⟩, G.refl _⟩ (Za rfl (Za rfl (Zd _))) ?_
 rintro i u1 ⟨hI1, gl1⟩
 have g := g.trans gl1
 replace B1 := B1.grow (gl1)
 refine Zg fun K7 hK7 => ?_
 refine Zg fun K8 hK8 => ?_
 refine Zf [3, 3, 0, 3, 3] ?_
 refine Zc rfl (fun _ => Zi (Zb rfl)) ?_
 refine Zc rfl (fun _ => Zm Zv (Zb rfl)) ?_
 refine Ya rfl (Zt Zq (Zb rfl) (fun _ => B1.at_ rfl)) ?_
 refine Zc rfl (fun _ => Xx Zo (Zb rfl)) ?_
 refine Zc rfl (fun _ => Vh (Zb rfl) (Zb rfl)) ?_
 refine Zj [(1, _, _), (3, _, _), (16, _, _)] (Za rfl (Za rfl (Za rfl (Zd _)))) ?_
 refine Zh (hK8 _ _ ?_)
 refine Zz (Zb rfl) (fun h2 => ?_) (fun h2 => ?_)
 ·replace h2 : i < t.kids.length := by simp only [decide_eq_true_eq] at h2; omega
  obtain ⟨hpe, p2, c2, hcell, hkid⟩ := Xw hk h2
  have hr := ih.kid h2
  refine Yq (hK7 _ _ ?_)
  refine Yi [(1, _, _), (3, _, _)] (Za rfl (Za rfl (Zd _))) ?_
  refine Zg fun K9 hK9 => ?_
  refine Yp ?_
  refine Zg fun K10 hK10 => ?_
  refine Zf [3, 0, 3, 3, 0, 1, 3] ?_
  refine Zc rfl (fun _ => Zm Zv (Zb rfl)) ?_
  refine Ya rfl (Zt Zq (Zb rfl) (fun _ => B1.at_ rfl)) ?_
  refine Zc rfl (fun _ => Zi (Zb rfl)) ?_
  refine Zc rfl (fun _ => Xc Zo (Zb rfl) (Zb rfl) (fun _ => by omega) (fun _ => hpe)) ?_
  refine Ya rfl (Yb Zr (Zb rfl) rfl (fun _ => hcell.grow g)) ?_
  refine Xe rfl (Zu Jk Yl (Zk (Zb rfl) (Zn)) rfl) (hr.st _ _ D _ (hkid.grow g)) (fun w24 g24 => ?_)
  have g := g.trans (g24)
  try have gl1 := gl1.trans (g24)
  replace B1 := B1.grow (g24)
  refine Zc rfl (fun _ => Ub (Zb rfl)) ?_
  refine Zj [(1, _, _), (3, _, _), (25, _, _)] (Za rfl (Za rfl (Za rfl (Zd _)))) ?_
  refine Zh (hK10 _ _ ?_)
  refine Zz (Zb rfl) (fun h3 => ?_) (fun h3 => ?_)
  ·(try simp only [bsimp] at h3)
   refine Zg fun K11 hK11 => ?_
   refine Zf [3] ?_
   refine Zc rfl (fun _ => Ze Zl) ?_
   refine Zj [(1, _, _), (2, _, _), (3, _, _)] (Za rfl (Za rfl (Za rfl (Zd _)))) ?_
   refine Zh (hK11 _ _ ?_)
   refine Yf (Yj rfl rfl ?_)
   refine ⟨congrArg Value.bool ?_, g⟩
   rw [h1, cond_false, eq_comm, List.all_eq_false]
   exact ⟨_, List.getElem_mem h2, by rw [← Xu h2]; simpa using h3⟩
  (try simp only [bsimp] at h3)
  refine Yq (hK9 _ _ ?_)
  refine Yi [(1, _, _), (3, _, _)] (Za rfl (Za rfl (Zd _))) ?_
  refine Zf [3, 3, 3] ?_
  refine Zc rfl (fun _ => Zi (Zb rfl)) ?_
  refine Zc rfl (fun _ => Xq (Zb rfl) Zl (fun _ => by omega)) ?_
  refine Zc rfl (fun _ => Ze (Zb rfl)) ?_
  refine Zj [(3, _, _), (1, _, _)] (Za rfl (Za rfl (Zd _))) ?_
  refine Zh (fun a ha => ?_)
  refine ⟨i + 1, ha, ⟨⟨h2, fun j h hj => ?_⟩, gl1⟩, by omega⟩
  by_cases e : j = i
  ·subst e; rw [← Xu h2]; simpa using h3
  ·exact hI1.2 j h (by omega)
 (try simp only [bsimp] at h2)
 refine Wa rfl (hK5 _ _ ?_)
 refine Yi [] (Zd _) ?_
 refine Zg fun K12 hK12 => ?_
 refine Zf [3] ?_
 refine Zc rfl (fun _ => Ze Zl) ?_
 refine Zh (hK12 _ _ ?_)
 refine Yf (Yj rfl rfl ?_)
 refine ⟨congrArg Value.bool ?_, g⟩
 rw [h1, cond_false, eq_comm, List.all_eq_true]
 intro x hx
 obtain ⟨j, hj, rfl⟩ := List.getElem_of_mem hx
 exact hI1.2 j hj (by simp only [decide_eq_false_iff_not] at h2; omega)
theorem isif_ok (t : Nd) (p : Option Addr) (c : Nat) (D : Nat → Prop) (w : World) (hk : Kd w D t.kids (.slice p t.kids.length c)) (ih : Blw t) : Ret PP Udb #[ndV t (.slice p t.kids.length c)] w fun r w' => r = .bool (ifB t) ∧ G w w' := by
 rw [← refIf_eq, refIf]
 have g := G.refl w
 refine Ym (m := 46) func_r03_isIf rfl rfl [(0, True, _)] (Za rfl (Zd _)) ?_
 refine Zg fun K1 hK1 => ?_
 refine Zf [1, 3] ?_
 refine Wd rfl (Zb rfl) rfl ?_
 intro b1 w1 N1
 have l1 := N1.ge g
 have g := g.trans (N1.g)
 have B1 := N1.blk
 refine Zc rfl (fun _ => Ze Zl) ?_
 refine Zj [(1, _, _), (2, _, _)] (Za rfl (Za rfl (Zd _))) ?_
 refine Zh (hK1 _ _ ?_)
 refine Zg fun K2 hK2 => ?_
 refine Zg fun K3 hK3 => ?_
 refine Zf [3, 0, 3, 3, 3, 0, 3, 3, 3, 3, 0, 3, 3, 3] ?_
 refine Zc rfl (fun _ => Zm Ys (Zb rfl)) ?_
 refine Ya rfl (Zt Yy (Zb rfl) (fun _ => B1.at_ rfl)) ?_
 refine Zc rfl (fun _ => Qi (Zb rfl) Zl) ?_
 refine Zc rfl (fun _ => Zi (Zb rfl)) ?_
 refine Zs rfl rfl rfl (fun _ => Zm Yw (Zb rfl)) ?_
 refine Yr rfl rfl rfl (Zt Yt (Zy rfl id) (fun _ => B1.at_ rfl)) ?_
 refine Zs rfl rfl rfl (fun _ => Jmb (Zy rfl id) Zl) ?_
 refine Zc rfl (fun _ => Yz (Zb rfl) (Zy rfl id)) ?_
 refine Zc rfl (fun _ => Zi (Zb rfl)) ?_
 refine Zs rfl rfl rfl (fun _ => Zm Zv (Zb rfl)) ?_
 refine Yr rfl rfl rfl (Zt Zq (Zy rfl id) (fun _ => B1.at_ rfl)) ?_
 refine Zs rfl rfl rfl (fun _ => Xx Zo (Zy rfl id)) ?_
 refine Zs rfl rfl rfl (fun _ => Qi (Zy rfl id) Zl) ?_
 refine Zc rfl (fun _ => Yz (Zb rfl) (Zy rfl id)) ?_
 refine Zj [(1, _, _), (2, _, _), (17, _, _)] (Za rfl (Za rfl (Za rfl (Zd _)))) ?_
 refine Zh (hK3 _ _ ?_)
 refine Zz (Zb rfl) (fun h1 => ?_) (fun h1 => ?_)
 ·replace h1 : ((!decide (t.kind = 18) || !plainB t) || !lenK t 3) = true := h1
  refine Zg fun K4 hK4 => ?_
  refine Zf [3] ?_
  refine Zc rfl (fun _ => Ze Zl) ?_
  refine Zj [(1, _, _), (2, _, _)] (Za rfl (Za rfl (Zd _))) ?_
  refine Zh (hK4 _ _ ?_)
  refine Yf (Yj rfl rfl ?_)
  refine ⟨congrArg Value.bool ?_, g⟩
  rw [h1]; rfl
 replace h1 : ((!decide (t.kind = 18) || !plainB t) || !lenK t 3) = false := h1
 have hl3 : t.kids.length = 3 := by simp only [lenK, Bool.or_eq_false_iff, Bool.not_eq_false', decide_eq_true_eq] at h1; omega
 obtain ⟨hpe, p0, c0, hcell0, hkid0⟩ := Xw hk (i := 0) (by omega)
 obtain ⟨_, p1, c1, hcell1, hkid1⟩ := Xw hk (i := 1) (by omega)
 obtain ⟨_, p2, c2, hcell2, hkid2⟩ := Xw hk (i := 2) (by omega)
 have hr0 := ih.kid (i := 0) (by omega)
 have hr1 := ih.kid (i := 1) (by omega)
 have hr2 := ih.kid (i := 2) (by omega)
 refine Yq (hK2 _ _ ?_)
 refine Yi [(1, _, _), (2, _, _)] (Za rfl (Za rfl (Zd _))) ?_
 refine Zg fun K5 hK5 => ?_
 refine Zf [3, 0, 3, 0, 1, 2] ?_
 refine Zc rfl (fun _ => Zm Zv (Zb rfl)) ?_
 refine Ya rfl (Zt Zq (Zb rfl) (fun _ => B1.at_ rfl)) ?_
 refine Zc rfl (fun _ => Xc Zo (Zb rfl) Zl (fun _ => by omega) (fun _ => hpe)) ?_
 refine Ya rfl (Yb Zr (Zb rfl) rfl (fun _ => hcell2.grow g)) ?_
 refine Xr rfl Yo rfl ?_
 intro b3 w3 N3
 have x3_1 := N3.ne B1
 have l3 := N3.ge g
 have g := g.trans (N3.g)
 replace B1 := B1.grow (N3.g)
 have B3 := N3.blk
 refine Yu rfl Xi (Zb rfl) (Zb rfl) rfl rfl B3 rfl rfl ?_
 intro wS1 hgS1 hzS1
 clear B3
 intro B3
 replace B1 := B1.keep hgS1 (by intro h; injection h with h; first | exact x3_1 h.symm | exact x1_3 h | omega)
 have g := Xo g hgS1 (by intro k hk; injection hk with hk; omega)
 refine Zj [(1, _, _), (2, _, _), (3, _, _)] (Za rfl (Za rfl (Za rfl (Zd _)))) ?_
 refine Zh (hK5 _ _ ?_)
 refine Zg fun K6 hK6 => ?_
 refine Zf [3, 0, 3, 0, 1, 3, 3, 0, 3, 0, 1, 3, 3, 0, 1, 3, 0, 1, 3, 3, 0, 1, 3, 3, 3] ?_
 refine Zc rfl (fun _ => Zm Zv (Zb rfl)) ?_
 refine Ya rfl (Zt Zq (Zb rfl) (fun _ => B1.at_ rfl)) ?_
 refine Zc rfl (fun _ => Xc Zo (Zb rfl) Zl (fun _ => by omega) (fun _ => hpe)) ?_
 refine Ya rfl (Yb Zr (Zb rfl) rfl (fun _ => hcell0.grow g)) ?_
 refine Xe rfl (Zu Vk Yl (Zk (Zb rfl) (Zn)) rfl) (hr0.ex _ _ D _ (hkid0.grow g)) (fun w26 g26 => ?_)
 have g := g.trans (g26)
 replace B1 := B1.grow (g26)
 replace B3 := B3.grow (g26)
 refine Zc rfl (fun _ => Zi (Zb rfl)) ?_
 refine Zs rfl rfl rfl (fun _ => Zm Zv (Zb rfl)) ?_
 refine Yr rfl rfl rfl (Zt Zq (Zy rfl id) (fun _ => B1.at_ rfl)) ?_
 refine Zs rfl rfl rfl (fun _ => Xc Zo (Zy rfl id) Zl (fun _ => by omega) (fun _ => hpe)) ?_
 refine Yr rfl rfl rfl (Yb Zr (Zy rfl id) rfl (fun _ => hcell1.grow g)) ?_
 refine Xb rfl rfl rfl (fun _ => (Zu Un Yl (Zk (Zy rfl id) (Zn)) rfl)) (fun hc => hr1.bl _ _ D _ (hkid1.grow g)) (fun w32 g32 => ?_)
 have g := g.trans (g32)
 replace B1 := B1.grow (g32)
 replace B3 := B3.grow (g32)
 refine Zc rfl (fun _ => Ye (Zb rfl) (Zy rfl id)) ?_
 refine Zc rfl (fun _ => Zi (Zb rfl)) ?_
 refine Yr rfl rfl rfl (Yb Zr (Zb rfl) rfl (fun _ => B3.row)) ?_
 refine Xb rfl rfl rfl (fun _ => (Zu Un Yl (Zk (Zy rfl id) (Zn)) rfl)) (fun hc => hr2.bl _ _ D _ (hkid2.grow g)) (fun w36 g36 => ?_)
 have g := g.trans (g36)
 replace B1 := B1.grow (g36)
 replace B3 := B3.grow (g36)
 refine Zs rfl rfl rfl (fun _ => Zi (Zy rfl id)) ?_
 refine Yr rfl rfl rfl (Yb Zr (Zb rfl) rfl (fun _ => B3.row)) ?_
 refine Xb rfl rfl rfl (fun _ => (Zu Ueb Yl (Zk (Zy rfl id) (Zn)) rfl)) (fun hc => hr2.fi _ _ D _ (hkid2.grow g)) (fun w39 g39 => ?_)
 have g := g.trans (g39)
 replace B1 := B1.grow (g39)
 replace B3 := B3.grow (g39)
 refine Zs rfl rfl rfl (fun _ => Yz (Zy rfl id) (Zy rfl id)) ?_
 refine Zs rfl rfl rfl (fun _ => Zi (Zy rfl id)) ?_
 refine Yr rfl rfl rfl (Yb Zr (Zb rfl) rfl (fun _ => B3.row)) ?_
 refine Xb rfl rfl rfl (fun _ => (Zu Qz Yl (Zk (Zy rfl id) (Zn)) rfl)) (fun hc => Zfb _ _ _ _) (fun w43 g43 => ?_)
 have g := g.trans (g43)
 replace B1 := B1.grow (g43)
 replace B3 := B3.grow (g43)
 refine Zs rfl rfl rfl (fun _ => Yz (Zy rfl id) (Zy rfl id)) ?_
 refine Zc rfl (fun _ => Ye (Zb rfl) (Zy rfl id)) ?_
 refine Zc rfl (fun _ => Ze (Zb rfl)) ?_
 refine Zj [(2, _, _)] (Za rfl (Zd _)) ?_
 refine Zh (hK6 _ _ ?_)
 refine Yf (Yj rfl rfl ?_)
 refine ⟨congrArg Value.bool ?_, g⟩
 rw [h1]; rfl
theorem isvar_ok (t : Nd) (p : Option Addr) (c : Nat) (D : Nat → Prop) (w : World) (hk : Kd w D t.kids (.slice p t.kids.length c)) (ih : Blw t) : Ret PP fn_r03_isVar #[ndV t (.slice p t.kids.length c)] w fun r w' => r = .bool (varB t) ∧ G w w' := by
 rw [← refVar_eq, refVar]
 have g := G.refl w
 obtain ⟨p0, c0, h0x⟩ := Yib hk ih 0
 obtain ⟨p1, c1, h1x⟩ := Yib hk ih 1
 refine Ym (m := 38) Zdc rfl rfl [(0, True, _)] (Za rfl (Zd _)) ?_
 refine Zg fun K1 hK1 => ?_
 refine Zf [1, 3] ?_
 refine Wd rfl (Zb rfl) rfl ?_
 intro b1 w1 N1
 have l1 := N1.ge g
 have g := g.trans (N1.g)
 have B1 := N1.blk
 refine Zc rfl (fun _ => Ze Zl) ?_
 refine Zj [(1, _, _), (2, _, _)] (Za rfl (Za rfl (Zd _))) ?_
 refine Zh (hK1 _ _ ?_)
 refine Zg fun K2 hK2 => ?_
 refine Zf [3, 0, 3, 3, 3, 0, 1, 3, 3, 3, 0, 3, 3, 3, 3, 3, 0, 3, 0, 1, 3, 3, 3, 0, 3, 0, 1, 3, 3, 0, 3, 0, 1, 3, 3, 3] ?_
 refine Zc rfl (fun _ => Zm Ys (Zb rfl)) ?_
 refine Ya rfl (Zt Yy (Zb rfl) (fun _ => B1.at_ rfl)) ?_
 refine Zc rfl (fun _ => Yg (Zb rfl) Zl) ?_
 refine Zc rfl (fun _ => Zi (Zb rfl)) ?_
 refine Zs rfl rfl rfl (fun _ => Zm Yw (Zb rfl)) ?_
 refine Yr rfl rfl rfl (Zt Yt (Zy rfl id) (fun _ => B1.at_ rfl)) ?_
 refine Xb rfl rfl rfl (fun _ => (Zu Qj Yl (Zk (Zy rfl id) (Zn)) rfl)) (fun hc => Yoa _ _) (fun w9 g9 => ?_)
 have g := g.trans (g9)
 replace B1 := B1.grow (g9)
 refine Zc rfl (fun _ => Ye (Zb rfl) (Zy rfl id)) ?_
 refine Zc rfl (fun _ => Zi (Zb rfl)) ?_
 refine Zs rfl rfl rfl (fun _ => Zm Zv (Zb rfl)) ?_
 refine Yr rfl rfl rfl (Zt Zq (Zy rfl id) (fun _ => B1.at_ rfl)) ?_
 refine Zs rfl rfl rfl (fun _ => Xx Zo (Zy rfl id)) ?_
 refine Zs rfl rfl rfl (fun _ => Yg (Zy rfl id) Zl) ?_
 refine Zc rfl (fun _ => Ye (Zb rfl) (Zy rfl id)) ?_
 refine Zc rfl (fun _ => Zi (Zb rfl)) ?_
 refine Zs rfl rfl rfl (fun _ => Zm Zv (Zb rfl)) ?_
 refine Yr rfl rfl rfl (Zt Zq (Zy rfl id) (fun _ => B1.at_ rfl)) ?_
 refine Zs rfl rfl rfl (fun _ => Xc Zo (Zy rfl id) Zl (fun hc => by (have hz := hc.2; first | (unfold lenK at hz; simp at hz; omega) | (simp at hz; omega))) (fun hc => (h0x (by (have hz := hc.2; first | (unfold lenK at hz; simp at hz; omega) | (simp at hz; omega)))).1)) ?_
 refine Yr rfl rfl rfl (Yb Zr (Zy rfl id) rfl (fun hc => (h0x (by (have hz := hc.2; first | (unfold lenK at hz; simp at hz; omega) | (simp at hz; omega)))).2.1.grow g)) ?_
 refine Xb rfl rfl rfl (fun _ => (Zu Vba Yl (Zk (Zy rfl id) (Zn)) rfl)) (fun hc => Vnb _ _ _ _) (fun w22 g22 => ?_)
 have g := g.trans (g22)
 replace B1 := B1.grow (g22)
 refine Zc rfl (fun _ => Ye (Zb rfl) (Zy rfl id)) ?_
 refine Zc rfl (fun _ => Zi (Zb rfl)) ?_
 refine Zs rfl rfl rfl (fun _ => Zm Zv (Zb rfl)) ?_
 refine Yr rfl rfl rfl (Zt Zq (Zy rfl id) (fun _ => B1.at_ rfl)) ?_
 refine Zs rfl rfl rfl (fun _ => Xc Zo (Zy rfl id) Zl (fun hc => by (have hz := hc.2; first | (unfold lenK at hz; simp at hz; omega) | (simp at hz; omega))) (fun hc => (h1x (by (have hz := hc.2; first | (unfold lenK at hz; simp at hz; omega) | (simp at hz; omega)))).1)) ?_
 refine Yr rfl rfl rfl (Yb Zr (Zy rfl id) rfl (fun hc => (h1x (by (have hz := hc.2; first | (unfold lenK at hz; simp at hz; omega) | (simp at hz; omega)))).2.1.grow g)) ?_
 refine Xb rfl rfl rfl (fun _ => (Zu Qz Yl (Zk (Zy rfl id) (Zn)) rfl)) (fun hc => Zfb _ _ _ _) (fun w29 g29 => ?_)
 have g := g.trans (g29)
 replace B1 := B1.grow (g29)
 refine Zs rfl rfl rfl (fun _ => Zi (Zy rfl id)) ?_
 refine Zs rfl rfl rfl (fun _ => Zm Zv (Zb rfl)) ?_
 refine Yr rfl rfl rfl (Zt Zq (Zy rfl id) (fun _ => B1.at_ rfl)) ?_
 refine Zs rfl rfl rfl (fun _ => Xc Zo (Zy rfl id) Zl (fun hc => by (have hz := hc.1.2; first | (unfold lenK at hz; simp at hz; omega) | (simp at hz; omega))) (fun hc => (h1x (by (have hz := hc.1.2; first | (unfold lenK at hz; simp at hz; omega) | (simp at hz; omega)))).1)) ?_
 refine Yr rfl rfl rfl (Yb Zr (Zy rfl id) rfl (fun hc => (h1x (by (have hz := hc.1.2; first | (unfold lenK at hz; simp at hz; omega) | (simp at hz; omega)))).2.1.grow g)) ?_
 refine Xb rfl rfl rfl (fun _ => (Zu Vk Yl (Zk (Zy rfl id) (Zn)) rfl)) (fun hc => (h1x (by (have hz := hc.1.2; first | (unfold lenK at hz; simp at hz; omega) | (simp at hz; omega)))).2.2.2.ex _ _ D _ ((h1x (by (have hz := hc.1.2; first | (unfold lenK at hz; simp at hz; omega) | (simp at hz; omega)))).2.2.1.grow g)) (fun w35 g35 => ?_)
 have g := g.trans (g35)
 replace B1 := B1.grow (g35)
 refine Zs rfl rfl rfl (fun _ => Yz (Zy rfl id) (Zy rfl id)) ?_
 refine Zc rfl (fun _ => Ye (Zb rfl) (Zy rfl id)) ?_
 refine Zc rfl (fun _ => Ze (Zb rfl)) ?_
 refine Zj [(2, _, _)] (Za rfl (Zd _)) ?_
 refine Zh (hK2 _ _ ?_)
 refine Yf (Yj rfl rfl ?_)
 exact ⟨rfl, g⟩
end Go.Rk
namespace Go.Rk
open Go Go.RowKit
theorem Xf {t : Nd} {i : Nat} (h : i < t.kids.length) : count (kidAt t i) < count t := by
  rw [Xu h]; have := Xz (List.getElem_mem h); omega
theorem Xma {t : Nd} {i : Nat} (h : ¬ i < t.kids.length) : kidAt t i = nd0 := by
  simp only [kidAt, List.getD_eq_getElem?_getD]; rw [List.getElem?_eq_none (by omega)]; rfl
theorem below_kid {t : Nd} (ih : Blw t) {i : Nat} (h : i < t.kids.length) : Blw (kidAt t i) := fun k hk => ih k (Nat.lt_trans hk (Xf h))
theorem caseB_not (t : Nd) : (!caseB t) = ((((!decide (t.kind = 23) || !plainB t) || !lenK t 2) || !commF (kidAt t 0)) || !blockB (kidAt t 1)) := by
  rw [caseB]
  cases decide (t.kind = 23) <;> cases plainB t <;> cases lenK t 2 <;> cases commF (kidAt t 0) <;> cases blockB (kidAt t 1) <;> rfl
theorem isselect_ok (t : Nd) (p : Option Addr) (c : Nat) (D : Nat → Prop) (w : World) (hk : Kd w D t.kids (.slice p t.kids.length c)) (ih : Blw t) (hln : t.kids.length ≤ 1000000) : Ret PP Qob #[ndV t (.slice p t.kids.length c)] w fun r w' => r = .bool (refSelect t) ∧ G w w' := by
  have g := G.refl w
  refine Ym (m := 50) Xxb rfl rfl [(0, True, _)] (Za rfl (Zd _)) ?_
  refine Zg fun K1 hK1 => ?_
  refine Zf [1, 3] ?_
  refine Wd rfl (Zb rfl) rfl ?_
  intro b1 w1 N1
  have l1 := N1.ge g
  have g := g.trans (N1.g)
  have B1 := N1.blk
  refine Zc rfl (fun _ => Ze Zl) ?_
  refine Zj [(1, _, _), (2, _, _)] (Za rfl (Za rfl (Zd _))) ?_
  refine Zh (hK1 _ _ ?_)
  refine Zg fun K2 hK2 => ?_
  refine Zg fun K3 hK3 => ?_
  refine Zf [3] ?_
  refine Zc rfl (fun _ => Ze Zl) ?_
  refine Zh (hK3 _ _ ?_)
  refine Yp ?_
  refine Wv (fun (i : Nat) u1 => (i ≤ t.kids.length ∧ ∀ j, (h : j < t.kids.length) → j < i → caseB t.kids[j] = true) ∧ G w1 u1) [(1, True, _)] (fun (i : Nat) => [(3, True, .int .i64 i)]) (fun (i : Nat) => t.kids.length - i) (0) ⟨⟨Nat.zero_le _, fun j _ hj => absurd hj (Nat.not_lt_zero j)⟩, G.refl _⟩ (Za rfl (Za rfl (Zd _))) ?_
  rintro i u1 ⟨hI1, gl1⟩
  have g := g.trans gl1
  replace B1 := B1.grow (gl1)
  refine Zg fun K4 hK4 => ?_
  refine Zg fun K5 hK5 => ?_
  refine Zf [3, 3, 0, 3, 3] ?_
  refine Zc rfl (fun _ => Zi (Zb rfl)) ?_
  refine Zc rfl (fun _ => Zm Zv (Zb rfl)) ?_
  refine Ya rfl (Zt Zq (Zb rfl) (fun _ => B1.at_ rfl)) ?_
  refine Zc rfl (fun _ => Xx Zo (Zb rfl)) ?_
  refine Zc rfl (fun _ => Vh (Zb rfl) (Zb rfl)) ?_
  refine Zj [(1, _, _), (3, _, _), (9, _, _)] (Za rfl (Za rfl (Za rfl (Zd _)))) ?_
  refine Zh (hK5 _ _ ?_)
  refine Zz (Zb rfl) (fun h1 => ?_) (fun h1 => ?_)
  · replace h1 : i < t.kids.length := by simp only [decide_eq_true_eq] at h1; omega
    obtain ⟨hpe, p2, c2, hcell, hkid⟩ := Xw hk h1
    obtain ⟨p3, c3, h0x⟩ := Yib hkid (below_kid ih h1) 0
    obtain ⟨p4, c4, h1x⟩ := Yib hkid (below_kid ih h1) 1
    refine Yq (hK4 _ _ ?_)
    refine Yi [(1, _, _), (3, _, _)] (Za rfl (Za rfl (Zd _))) ?_
    refine Zg fun K6 hK6 => ?_
    refine Yp ?_
    refine Zg fun K7 hK7 => ?_
    refine Zf [3, 0, 3, 3, 0, 1, 2] ?_
    refine Zc rfl (fun _ => Zm Zv (Zb rfl)) ?_
    refine Ya rfl (Zt Zq (Zb rfl) (fun _ => B1.at_ rfl)) ?_
    refine Zc rfl (fun _ => Zi (Zb rfl)) ?_
    refine Zc rfl (fun _ => Xc Zo (Zb rfl) (Zb rfl) (fun _ => by omega) (fun _ => hpe)) ?_
    refine Ya rfl (Yb Zr (Zb rfl) rfl (fun _ => hcell.grow g)) ?_
    refine Xr rfl Yo rfl ?_
    intro b4 w4 N4
    have x4_1 := N4.ne B1
    have l4 := N4.ge g
    try have l4_gl1 := N4.ge gl1
    have g := g.trans (N4.g)
    try have gl1 := gl1.trans (N4.g)
    replace B1 := B1.grow (N4.g)
    have B4 := N4.blk
    refine Yu rfl Xi (Zb rfl) (Zb rfl) rfl rfl B4 rfl rfl ?_
    intro wS1 hgS1 hzS1
    clear B4
    intro B4
    replace B1 := B1.keep hgS1 (by intro h; injection h with h; first | exact x4_1 h.symm | exact x1_4 h | omega)
    have g := Xo g hgS1 (by intro k hk; injection hk with hk; omega)
    first | replace gl1 := Xo gl1 hgS1 (by intro k hk; injection hk with hk; omega) | clear gl1 | skip
    refine Zj [(1, _, _), (3, _, _), (4, _, _)] (Za rfl (Za rfl (Za rfl (Zd _)))) ?_
    refine Zh (hK7 _ _ ?_)
    refine Zg fun K8 hK8 => ?_
    refine Zf [3, 0, 3, 3, 3, 0, 3, 3, 3, 3, 0, 3, 3, 3, 3, 3, 0, 3, 0, 1, 3, 3, 3, 3, 0, 3, 0, 1, 3, 3] ?_
    refine Zc rfl (fun _ => Zm Ys (Zb rfl)) ?_
    refine Ya rfl (Zt Yy (Zb rfl) (fun _ => B4.at_ rfl)) ?_
    refine Zc rfl (fun _ => Qi (Zb rfl) Zl) ?_
    refine Zc rfl (fun _ => Zi (Zb rfl)) ?_
    refine Zs rfl rfl rfl (fun _ => Zm Yw (Zb rfl)) ?_
    refine Yr rfl rfl rfl (Zt Yt (Zy rfl id) (fun _ => B4.at_ rfl)) ?_
    refine Zs rfl rfl rfl (fun _ => Jmb (Zy rfl id) Zl) ?_
    refine Zc rfl (fun _ => Yz (Zb rfl) (Zy rfl id)) ?_
    refine Zc rfl (fun _ => Zi (Zb rfl)) ?_
    refine Zs rfl rfl rfl (fun _ => Zm Zv (Zb rfl)) ?_
    refine Yr rfl rfl rfl (Zt Zq (Zy rfl id) (fun _ => B4.at_ rfl)) ?_
    refine Zs rfl rfl rfl (fun _ => Xx Zo (Zy rfl id)) ?_
    refine Zs rfl rfl rfl (fun _ => Qi (Zy rfl id) Zl) ?_
    refine Zc rfl (fun _ => Yz (Zb rfl) (Zy rfl id)) ?_
    refine Zc rfl (fun _ => Zi (Zb rfl)) ?_
    refine Zs rfl rfl rfl (fun _ => Zm Zv (Zb rfl)) ?_
    refine Yr rfl rfl rfl (Zt Zq (Zy rfl id) (fun _ => B4.at_ rfl)) ?_
    refine Zs rfl rfl rfl (fun _ => Xc Zo (Zy rfl id) Zl (fun hc => by (have hz := hc.2; first | (unfold lenK at hz; simp at hz; omega) | (simp at hz; omega))) (fun hc => (h0x (by (have hz := hc.2; first | (unfold lenK at hz; simp at hz; omega) | (simp at hz; omega)))).1)) ?_
    refine Yr rfl rfl rfl (Yb Zr (Zy rfl id) rfl (fun hc => (h0x (by (have hz := hc.2; first | (unfold lenK at hz; simp at hz; omega) | (simp at hz; omega)))).2.1.grow g)) ?_
    refine Xb rfl rfl rfl (fun _ => (Zu go_r03_isComm Yl (Zk (Zy rfl id) (Zn)) rfl)) (fun hc => (h0x (by (have hz := hc.2; first | (unfold lenK at hz; simp at hz; omega) | (simp at hz; omega)))).2.2.2.cm _ _ D _ ((h0x (by (have hz := hc.2; first | (unfold lenK at hz; simp at hz; omega) | (simp at hz; omega)))).2.2.1.grow g)) (fun w36 g36 => ?_)
    have g := g.trans (g36)
    try have gl1 := gl1.trans (g36)
    replace B1 := B1.grow (g36)
    replace B4 := B4.grow (g36)
    refine Zs rfl rfl rfl (fun _ => Ub (Zy rfl id)) ?_
    refine Zc rfl (fun _ => Yz (Zb rfl) (Zy rfl id)) ?_
    refine Zc rfl (fun _ => Zi (Zb rfl)) ?_
    refine Zs rfl rfl rfl (fun _ => Zm Zv (Zb rfl)) ?_
    refine Yr rfl rfl rfl (Zt Zq (Zy rfl id) (fun _ => B4.at_ rfl)) ?_
    refine Zs rfl rfl rfl (fun _ => Xc Zo (Zy rfl id) Zl (fun hc => by (have hz := hc.2; first | (unfold lenK at hz; simp at hz; omega) | (simp at hz; omega))) (fun hc => (h1x (by (have hz := hc.2; first | (unfold lenK at hz; simp at hz; omega) | (simp at hz; omega)))).1)) ?_
    refine Yr rfl rfl rfl (Yb Zr (Zy rfl id) rfl (fun hc => (h1x (by (have hz := hc.2; first | (unfold lenK at hz; simp at hz; omega) | (simp at hz; omega)))).2.1.grow g)) ?_
    refine Xb rfl rfl rfl (fun _ => (Zu Un Yl (Zk (Zy rfl id) (Zn)) rfl)) (fun hc => (h1x (by (have hz := hc.2; first | (unfold lenK at hz; simp at hz; omega) | (simp at hz; omega)))).2.2.2.bl _ _ D _ ((h1x (by (have hz := hc.2; first | (unfold lenK at hz; simp at hz; omega) | (simp at hz; omega)))).2.2.1.grow g)) (fun w44 g44 => ?_)
    have g := g.trans (g44)
    try have gl1 := gl1.trans (g44)
    replace B1 := B1.grow (g44)
    replace B4 := B4.grow (g44)
    refine Zs rfl rfl rfl (fun _ => Ub (Zy rfl id)) ?_
    refine Zc rfl (fun _ => Yz (Zb rfl) (Zy rfl id)) ?_
    refine Zj [(1, _, _), (3, _, _), (46, _, _)] (Za rfl (Za rfl (Za rfl (Zd _)))) ?_
    refine Zh (hK8 _ _ ?_)
    refine Zz (Zb rfl) (fun h2 => ?_) (fun h2 => ?_)
    · replace h2 : caseB (kidAt t i) = false := by simpa using (caseB_not _).trans h2
      refine Zg fun K9 hK9 => ?_
      refine Zf [3] ?_
      refine Zc rfl (fun _ => Ze Zl) ?_
      refine Zj [(1, _, _), (2, _, _), (3, _, _)] (Za rfl (Za rfl (Za rfl (Zd _)))) ?_
      refine Zh (hK9 _ _ ?_)
      refine Yf (Yj rfl rfl ?_)
      refine ⟨congrArg Value.bool ?_, g⟩
      rw [eq_comm, refSelect, show t.kids.all caseB = false from List.all_eq_false.2 ⟨_, List.getElem_mem h1, by rw [← Xu h1, h2]; simp⟩]; rfl
    replace h2 : caseB (kidAt t i) = true := by simpa using (caseB_not _).trans h2
    refine Yq (hK6 _ _ ?_)
    refine Yi [(1, _, _), (3, _, _)] (Za rfl (Za rfl (Zd _))) ?_
    refine Zf [3, 3, 3] ?_
    refine Zc rfl (fun _ => Zi (Zb rfl)) ?_
    refine Zc rfl (fun _ => Xq (Zb rfl) Zl (fun _ => by omega)) ?_
    refine Zc rfl (fun _ => Ze (Zb rfl)) ?_
    refine Zj [(3, _, _), (1, _, _)] (Za rfl (Za rfl (Zd _))) ?_
    refine Zh (fun a ha => ?_)
    refine ⟨i + 1, ha, ⟨⟨h1, fun j h hj => ?_⟩, gl1⟩, by omega⟩
    by_cases e : j = i
    · subst e; rw [← Xu h1]; exact h2
    · exact hI1.2 j h (by omega)
  (try simp only [bsimp] at h1)
  refine Wa rfl (hK2 _ _ ?_)
  refine Yi [(1, _, _)] (Za rfl (Zd _)) ?_
  refine Zg fun K10 hK10 => ?_
  refine Zf [3, 0, 3, 3] ?_
  refine Zc rfl (fun _ => Zm Yw (Zb rfl)) ?_
  refine Ya rfl (Zt Yt (Zb rfl) (fun _ => B1.at_ rfl)) ?_
  refine Zc rfl (fun _ => Yh (Zb rfl) Zl) ?_
  refine Zc rfl (fun _ => Ze (Zb rfl)) ?_
  refine Zh (hK10 _ _ ?_)
  refine Yi [(1, _, _), (2, _, _), (47, _, _), (48, _, _), (49, _, _)] (Za rfl (Za rfl (Za rfl (Za rfl (Za rfl (Zd _)))))) ?_
  refine Yf (Yj rfl rfl ?_)
  refine ⟨congrArg Value.bool ?_, g⟩
  rw [eq_comm, refSelect, show t.kids.all caseB = true from List.all_eq_true.2 fun x hx => by
    obtain ⟨j, hj, rfl⟩ := List.getElem_of_mem hx
    exact hI1.2 j hj (by simp only [decide_eq_false_iff_not] at h1; omega)]; rfl
theorem Uca (t : Nd) (p : Option Addr) (c : Nat) (D : Nat → Prop) (w : World) (hk : Kd w D t.kids (.slice p t.kids.length c)) (ih : Blw t) (hln : t.kids.length ≤ 1000000) : Ret PP Ydb #[ndV t (.slice p t.kids.length c)] w fun r w' => r = .bool (stmtB t) ∧ G w w' := by
  rw [← Vr]
  have g := G.refl w
  obtain ⟨p0, c0, h0x⟩ := Yib hk ih 0
  obtain ⟨p1, c1, h1x⟩ := Yib hk ih 1
  have hr : ∀ k ∈ t.kids, ROk k := fun k hk => ih k (Xz hk)
  refine Ym (m := 149) Qgb rfl rfl [(0, True, _)] (Za rfl (Zd _)) ?_
  refine Zg fun K1 hK1 => ?_
  refine Zf [1, 3] ?_
  refine Wd rfl (Zb rfl) rfl ?_
  intro b1 w1 N1
  have l1 := N1.ge g
  have g := g.trans (N1.g)
  have B1 := N1.blk
  refine Zc rfl (fun _ => Ze Zl) ?_
  refine Zj [(1, _, _), (2, _, _)] (Za rfl (Za rfl (Zd _))) ?_
  refine Zh (hK1 _ _ ?_)
  refine Zg fun K2 hK2 => ?_
  refine Zf [3, 0, 3, 3] ?_
  refine Zc rfl (fun _ => Zm Zv (Zb rfl)) ?_
  refine Ya rfl (Zt Zq (Zb rfl) (fun _ => B1.at_ rfl)) ?_
  refine Zc rfl (fun _ => Xx Zo (Zb rfl)) ?_
  refine Zc rfl (fun _ => Ze (Zb rfl)) ?_
  refine Zj [(1, _, _), (2, _, _), (3, _, _)] (Za rfl (Za rfl (Za rfl (Zd _)))) ?_
  refine Zh (hK2 _ _ ?_)
  refine Zg fun K3 hK3 => ?_
  refine Zf [3, 0, 3, 3] ?_
  refine Zc rfl (fun _ => Zm Yw (Zb rfl)) ?_
  refine Ya rfl (Zt Yt (Zb rfl) (fun _ => B1.at_ rfl)) ?_
  refine Zc rfl (fun _ => Yh (Zb rfl) Zl) ?_
  refine Zc rfl (fun _ => Ze (Zb rfl)) ?_
  refine Zj [(1, _, _), (2, _, _), (3, _, _), (4, _, _)] (Za rfl (Za rfl (Za rfl (Za rfl (Zd _))))) ?_
  refine Zh (hK3 _ _ ?_)
  refine Zg fun K4 hK4 => ?_
  refine Zg fun K5 hK5 => ?_
  refine Zf [3, 0] ?_
  refine Zc rfl (fun _ => Zm Ys (Zb rfl)) ?_
  refine Ya rfl (Zt Yy (Zb rfl) (fun _ => B1.at_ rfl)) ?_
  refine Zj [(1, _, _), (2, _, _), (3, _, _), (4, _, _), (12, _, _)] (Za rfl (Za rfl (Za rfl (Za rfl (Za rfl (Zd _)))))) ?_
  refine Zh (hK5 _ _ ?_)
  refine Yp ?_
  refine Zg fun K6 hK6 => ?_
  refine Zf [3, 3] ?_
  refine Zc rfl (fun _ => Yg (Zb rfl) Zl) ?_
  refine Zc rfl (fun _ => Ze (Zb rfl)) ?_
  refine Zj [(1, _, _), (2, _, _), (3, _, _), (4, _, _), (12, _, _), (13, _, _)] (Za rfl (Za rfl (Za rfl (Za rfl (Za rfl (Za rfl (Zd _))))))) ?_
  refine Zh (hK6 _ _ ?_)
  refine Zz (Zb rfl) (fun h1 => ?_) (fun h1 => ?_)
  · (try simp only [bsimp] at h1)
    refine Zg fun K7 hK7 => ?_
    refine Zf [0, 1, 3] ?_
    refine Ya rfl (Yb Zr (Zb rfl) rfl (fun _ => B1.row)) ?_
    refine Xe rfl (Zu Xpb Yl (Zk (Zb rfl) (Zn)) rfl) (isvar_ok t _ _ D _ (hk.grow g) ih) (fun w16 g16 => ?_)
    have g := g.trans (g16)
    replace B1 := B1.grow (g16)
    refine Zc rfl (fun _ => Ze (Zb rfl)) ?_
    refine Zj [(2, _, _)] (Za rfl (Zd _)) ?_
    refine Zh (hK7 _ _ ?_)
    refine Yf (Yj rfl rfl ?_)
    refine ⟨congrArg Value.bool ?_, g⟩
    unfold refStmt; simp only [anyK, h1, cond_true, cond_false] <;> rfl
  (try simp only [bsimp] at h1)
  refine Zg fun K8 hK8 => ?_
  refine Zf [3, 3] ?_
  refine Zc rfl (fun _ => Yg (Zb rfl) Zl) ?_
  refine Zc rfl (fun _ => Ze (Zb rfl)) ?_
  refine Zj [(1, _, _), (2, _, _), (3, _, _), (4, _, _), (12, _, _), (17, _, _)] (Za rfl (Za rfl (Za rfl (Za rfl (Za rfl (Za rfl (Zd _))))))) ?_
  refine Zh (hK8 _ _ ?_)
  refine Zz (Zb rfl) (fun h2 => ?_) (fun h2 => ?_)
  · (try simp only [bsimp] at h2)
    refine Zg fun K9 hK9 => ?_
    refine Zf [0, 1, 3] ?_
    refine Ya rfl (Yb Zr (Zb rfl) rfl (fun _ => B1.row)) ?_
    refine Xe rfl (Zu Un Yl (Zk (Zb rfl) (Zn)) rfl) (Yic t _ _ D _ (hk.grow g) ih hln) (fun w20 g20 => ?_)
    have g := g.trans (g20)
    replace B1 := B1.grow (g20)
    refine Zc rfl (fun _ => Ze (Zb rfl)) ?_
    refine Zj [(2, _, _)] (Za rfl (Zd _)) ?_
    refine Zh (hK9 _ _ ?_)
    refine Yf (Yj rfl rfl ?_)
    refine ⟨congrArg Value.bool ?_, g⟩
    unfold refStmt; simp only [anyK, h1, h2, cond_true, cond_false] <;> rfl
  (try simp only [bsimp] at h2)
  refine Zg fun K10 hK10 => ?_
  refine Zf [3, 3] ?_
  refine Zc rfl (fun _ => Yg (Zb rfl) Zl) ?_
  refine Zc rfl (fun _ => Ze (Zb rfl)) ?_
  refine Zj [(1, _, _), (2, _, _), (3, _, _), (4, _, _), (12, _, _), (21, _, _)] (Za rfl (Za rfl (Za rfl (Za rfl (Za rfl (Za rfl (Zd _))))))) ?_
  refine Zh (hK10 _ _ ?_)
  refine Zz (Zb rfl) (fun h3 => ?_) (fun h3 => ?_)
  · (try simp only [bsimp] at h3)
    refine Zg fun K11 hK11 => ?_
    refine Zf [0, 1, 3] ?_
    refine Ya rfl (Yb Zr (Zb rfl) rfl (fun _ => B1.row)) ?_
    refine Xe rfl (Zu Ueb Yl (Zk (Zb rfl) (Zn)) rfl) (isif_ok t _ _ D _ (hk.grow g) ih) (fun w24 g24 => ?_)
    have g := g.trans (g24)
    replace B1 := B1.grow (g24)
    refine Zc rfl (fun _ => Ze (Zb rfl)) ?_
    refine Zj [(2, _, _)] (Za rfl (Zd _)) ?_
    refine Zh (hK11 _ _ ?_)
    refine Yf (Yj rfl rfl ?_)
    refine ⟨congrArg Value.bool ?_, g⟩
    unfold refStmt; simp only [anyK, h1, h2, h3, cond_true, cond_false] <;> rfl
  (try simp only [bsimp] at h3)
  refine Zg fun K12 hK12 => ?_
  refine Zf [3, 3] ?_
  refine Zc rfl (fun _ => Yg (Zb rfl) Zl) ?_
  refine Zc rfl (fun _ => Ze (Zb rfl)) ?_
  refine Zj [(1, _, _), (2, _, _), (3, _, _), (4, _, _), (12, _, _), (25, _, _)] (Za rfl (Za rfl (Za rfl (Za rfl (Za rfl (Za rfl (Zd _))))))) ?_
  refine Zh (hK12 _ _ ?_)
  refine Zz (Zb rfl) (fun h4 => ?_) (fun h4 => ?_)
  · (try simp only [bsimp] at h4)
    refine Zg fun K13 hK13 => ?_
    refine Zf [0, 1, 3] ?_
    refine Ya rfl (Yb Zr (Zb rfl) rfl (fun _ => B1.row)) ?_
    refine Xe rfl (Zu Qpb Yl (Zk (Zb rfl) (Zn)) rfl) (isselect_ok t _ _ D _ (hk.grow g) ih hln) (fun w28 g28 => ?_)
    have g := g.trans (g28)
    replace B1 := B1.grow (g28)
    refine Zc rfl (fun _ => Ze (Zb rfl)) ?_
    refine Zj [(2, _, _)] (Za rfl (Zd _)) ?_
    refine Zh (hK13 _ _ ?_)
    refine Yf (Yj rfl rfl ?_)
    refine ⟨congrArg Value.bool ?_, g⟩
    rw [Wib (by simpa using h4)]; unfold refStmt; simp only [anyK, h1, h2, h3, h4, cond_true, cond_false] <;> rfl
  (try simp only [bsimp] at h4)
  refine Zg fun K14 hK14 => ?_
  refine Zf [3, 3] ?_
  refine Zc rfl (fun _ => Yg (Zb rfl) Zl) ?_
  refine Zc rfl (fun _ => Ze (Zb rfl)) ?_
  refine Zj [(1, _, _), (2, _, _), (3, _, _), (4, _, _), (12, _, _), (29, _, _)] (Za rfl (Za rfl (Za rfl (Za rfl (Za rfl (Za rfl (Zd _))))))) ?_
  refine Zh (hK14 _ _ ?_)
  refine Zz (Zb rfl) (fun h5 => ?_) (fun h5 => ?_)
  · (try simp only [bsimp] at h5)
    refine Zg fun K15 hK15 => ?_
    refine Zf [3, 0, 1, 3, 3, 3, 3, 3, 3, 0, 3, 0, 1, 3, 3] ?_
    refine Zc rfl (fun _ => Zm Yw (Zb rfl)) ?_
    refine Ya rfl (Zt Yt (Zb rfl) (fun _ => B1.at_ rfl)) ?_
    refine Xe rfl (Zu Qj Yl (Zk (Zb rfl) (Zn)) rfl) (Yoa _ _) (fun w33 g33 => ?_)
    have g := g.trans (g33)
    replace B1 := B1.grow (g33)
    refine Zc rfl (fun _ => Zi (Zb rfl)) ?_
    refine Zs rfl rfl rfl (fun _ => Zi (Zb rfl)) ?_
    refine Zs rfl rfl rfl (fun _ => Yg (Zy rfl id) Zl) ?_
    refine Zc rfl (fun _ => Ye (Zb rfl) (Zy rfl id)) ?_
    refine Zc rfl (fun _ => Zi (Zb rfl)) ?_
    refine Zs rfl rfl rfl (fun _ => Zm Zv (Zb rfl)) ?_
    refine Yr rfl rfl rfl (Zt Zq (Zy rfl id) (fun _ => B1.at_ rfl)) ?_
    refine Zs rfl rfl rfl (fun _ => Xc Zo (Zy rfl id) Zl (fun hc => by (have hz := hc.2; first | (unfold lenK at hz; simp at hz; omega) | (simp at hz; omega))) (fun hc => (h0x (by (have hz := hc.2; first | (unfold lenK at hz; simp at hz; omega) | (simp at hz; omega)))).1)) ?_
    refine Yr rfl rfl rfl (Yb Zr (Zy rfl id) rfl (fun hc => (h0x (by (have hz := hc.2; first | (unfold lenK at hz; simp at hz; omega) | (simp at hz; omega)))).2.1.grow g)) ?_
    refine Xb rfl rfl rfl (fun _ => (Zu Vk Yl (Zk (Zy rfl id) (Zn)) rfl)) (fun hc => (h0x (by (have hz := hc.2; first | (unfold lenK at hz; simp at hz; omega) | (simp at hz; omega)))).2.2.2.ex _ _ D _ ((h0x (by (have hz := hc.2; first | (unfold lenK at hz; simp at hz; omega) | (simp at hz; omega)))).2.2.1.grow g)) (fun w43 g43 => ?_)
    have g := g.trans (g43)
    replace B1 := B1.grow (g43)
    refine Zc rfl (fun _ => Ye (Zb rfl) (Zy rfl id)) ?_
    refine Zc rfl (fun _ => Ze (Zb rfl)) ?_
    refine Zj [(2, _, _)] (Za rfl (Zd _)) ?_
    refine Zh (hK15 _ _ ?_)
    refine Yf (Yj rfl rfl ?_)
    refine ⟨congrArg Value.bool ?_, g⟩
    unfold refStmt; simp only [anyK, h1, h2, h3, h4, h5, cond_true, cond_false] <;> rfl
  (try simp only [bsimp] at h5)
  refine Zg fun K16 hK16 => ?_
  refine Zg fun K17 hK17 => ?_
  refine Zf [3, 3] ?_
  refine Zc rfl (fun _ => Yg (Zb rfl) Zl) ?_
  refine Zc rfl (fun _ => Ze (Zb rfl)) ?_
  refine Zj [(1, _, _), (2, _, _), (3, _, _), (4, _, _), (12, _, _), (45, _, _)] (Za rfl (Za rfl (Za rfl (Za rfl (Za rfl (Za rfl (Zd _))))))) ?_
  refine Zh (hK17 _ _ ?_)
  refine' Yk [(1, _, _), (2, _, _), (3, _, _), (4, _, _), (12, _, _)] (Za rfl (Za rfl (Za rfl (Za rfl (Za rfl (Za rfl (Zd _))))))) rfl (fun hb6 => ?y6) (hK16 _ _ ?n6)
  case y6 =>
   refine Zf [3, 3] ?_
   refine Zc rfl (fun _ => Yg (Zb rfl) Zl) ?_
   refine Zc rfl (fun _ => Ze (Zb rfl)) ?_
   refine Zj [(45, _, _), (1, _, _), (2, _, _), (3, _, _), (4, _, _), (12, _, _)] (Za rfl (Za rfl (Za rfl (Za rfl (Za rfl (Za rfl (Zd _))))))) ?_
   exact Zh (fun a ha => ⟨ha, rfl⟩)
  case n6 =>
   refine Zz (Zb rfl) (fun h7 => ?_) (fun h7 => ?_)
   · (try simp only [bsimp] at h7)
     refine Zg fun K18 hK18 => ?_
     refine Zf [3, 3, 3, 3, 3, 3, 3, 0, 1, 3, 3] ?_
     refine Zc rfl (fun _ => Zi (Zb rfl)) ?_
     refine Zc rfl (fun _ => Zi (Zb rfl)) ?_
     refine Zs rfl rfl rfl (fun _ => Zi (Zb rfl)) ?_
     refine Zs rfl rfl rfl (fun _ => Yg (Zy rfl id) Zl) ?_
     refine Zc rfl (fun _ => Ye (Zb rfl) (Zy rfl id)) ?_
     refine Zc rfl (fun _ => Zi (Zb rfl)) ?_
     refine Zs rfl rfl rfl (fun _ => Zm Zv (Zb rfl)) ?_
     refine Yr rfl rfl rfl (Zt Zq (Zy rfl id) (fun _ => B1.at_ rfl)) ?_
     refine Xb rfl rfl rfl (fun _ => (Zu Uo Yl (Zk (Zy rfl id) (Zn)) rfl)) (fun hc => Jsa _ _ _ D _ (hk.grow g) hr hln) (fun w56 g56 => ?_)
     have g := g.trans (g56)
     replace B1 := B1.grow (g56)
     refine Zc rfl (fun _ => Ye (Zb rfl) (Zy rfl id)) ?_
     refine Zc rfl (fun _ => Ze (Zb rfl)) ?_
     refine Zj [(2, _, _)] (Za rfl (Zd _)) ?_
     refine Zh (hK18 _ _ ?_)
     refine Yf (Yj rfl rfl ?_)
     refine ⟨congrArg Value.bool ?_, g⟩
     unfold refStmt; simp only [anyK, h1, h2, h3, h4, h5, h7, cond_true, cond_false] <;> rfl
   (try simp only [bsimp] at h7)
   refine Zg fun K19 hK19 => ?_
   refine Zf [3, 3] ?_
   refine Zc rfl (fun _ => Yg (Zb rfl) Zl) ?_
   refine Zc rfl (fun _ => Ze (Zb rfl)) ?_
   refine Zj [(1, _, _), (2, _, _), (3, _, _), (4, _, _), (12, _, _), (58, _, _)] (Za rfl (Za rfl (Za rfl (Za rfl (Za rfl (Za rfl (Zd _))))))) ?_
   refine Zh (hK19 _ _ ?_)
   refine Zz (Zb rfl) (fun h8 => ?_) (fun h8 => ?_)
   · (try simp only [bsimp] at h8)
     refine Zg fun K20 hK20 => ?_
     refine Zf [3, 3, 3, 3, 3, 3, 3, 0, 3, 0, 1, 3, 3, 0, 3, 0, 1, 3, 3, 3] ?_
     refine Zc rfl (fun _ => Zi (Zb rfl)) ?_
     refine Zc rfl (fun _ => Zi (Zb rfl)) ?_
     refine Zs rfl rfl rfl (fun _ => Zi (Zb rfl)) ?_
     refine Zs rfl rfl rfl (fun _ => Yg (Zy rfl id) Zl) ?_
     refine Zc rfl (fun _ => Ye (Zb rfl) (Zy rfl id)) ?_
     refine Zc rfl (fun _ => Zi (Zb rfl)) ?_
     refine Zs rfl rfl rfl (fun _ => Zm Zv (Zb rfl)) ?_
     refine Yr rfl rfl rfl (Zt Zq (Zy rfl id) (fun _ => B1.at_ rfl)) ?_
     refine Zs rfl rfl rfl (fun _ => Xc Zo (Zy rfl id) Zl (fun hc => by (have hz := hc.2; first | (unfold lenK at hz; simp at hz; omega) | (simp at hz; omega))) (fun hc => (h0x (by (have hz := hc.2; first | (unfold lenK at hz; simp at hz; omega) | (simp at hz; omega)))).1)) ?_
     refine Yr rfl rfl rfl (Yb Zr (Zy rfl id) rfl (fun hc => (h0x (by (have hz := hc.2; first | (unfold lenK at hz; simp at hz; omega) | (simp at hz; omega)))).2.1.grow g)) ?_
     refine Xb rfl rfl rfl (fun _ => (Zu Jca Yl (Zk (Zy rfl id) (Zk Zl (Zn))) rfl)) (fun hc => kind_ok _ _ _ _ D _ ((h0x (by (have hz := hc.2; first | (unfold lenK at hz; simp at hz; omega) | (simp at hz; omega)))).2.2.1.grow g) (h0x (by (have hz := hc.2; first | (unfold lenK at hz; simp at hz; omega) | (simp at hz; omega)))).2.2.2) (fun w70 g70 => ?_)
     have g := g.trans (g70)
     replace B1 := B1.grow (g70)
     refine Zs rfl rfl rfl (fun _ => Zi (Zy rfl id)) ?_
     refine Zs rfl rfl rfl (fun _ => Zm Zv (Zb rfl)) ?_
     refine Yr rfl rfl rfl (Zt Zq (Zy rfl id) (fun _ => B1.at_ rfl)) ?_
     refine Zs rfl rfl rfl (fun _ => Xc Zo (Zy rfl id) Zl (fun hc => by (have hz := hc.1.2; first | (unfold lenK at hz; simp at hz; omega) | (simp at hz; omega))) (fun hc => (h0x (by (have hz := hc.1.2; first | (unfold lenK at hz; simp at hz; omega) | (simp at hz; omega)))).1)) ?_
     refine Yr rfl rfl rfl (Yb Zr (Zy rfl id) rfl (fun hc => (h0x (by (have hz := hc.1.2; first | (unfold lenK at hz; simp at hz; omega) | (simp at hz; omega)))).2.1.grow g)) ?_
     refine Xb rfl rfl rfl (fun _ => (Zu Jca Yl (Zk (Zy rfl id) (Zk Zl (Zn))) rfl)) (fun hc => kind_ok _ _ _ _ D _ ((h0x (by (have hz := hc.1.2; first | (unfold lenK at hz; simp at hz; omega) | (simp at hz; omega)))).2.2.1.grow g) (h0x (by (have hz := hc.1.2; first | (unfold lenK at hz; simp at hz; omega) | (simp at hz; omega)))).2.2.2) (fun w76 g76 => ?_)
     have g := g.trans (g76)
     replace B1 := B1.grow (g76)
     refine Zs rfl rfl rfl (fun _ => Yz (Zy rfl id) (Zy rfl id)) ?_
     refine Zc rfl (fun _ => Ye (Zb rfl) (Zy rfl id)) ?_
     refine Zc rfl (fun _ => Ze (Zb rfl)) ?_
     refine Zj [(2, _, _)] (Za rfl (Zd _)) ?_
     refine Zh (hK20 _ _ ?_)
     refine Yf (Yj rfl rfl ?_)
     refine ⟨congrArg Value.bool ?_, g⟩
     unfold refStmt; simp only [anyK, h1, h2, h3, h4, h5, h7, h8, cond_true, cond_false] <;> rfl
   (try simp only [bsimp] at h8)
   refine Zg fun K21 hK21 => ?_
   refine Zg fun K22 hK22 => ?_
   refine Zf [3, 3] ?_
   refine Zc rfl (fun _ => Yg (Zb rfl) Zl) ?_
   refine Zc rfl (fun _ => Ze (Zb rfl)) ?_
   refine Zj [(1, _, _), (2, _, _), (3, _, _), (4, _, _), (12, _, _), (79, _, _)] (Za rfl (Za rfl (Za rfl (Za rfl (Za rfl (Za rfl (Zd _))))))) ?_
   refine Zh (hK22 _ _ ?_)
   refine' Yk [(1, _, _), (2, _, _), (3, _, _), (4, _, _), (12, _, _)] (Za rfl (Za rfl (Za rfl (Za rfl (Za rfl (Za rfl (Zd _))))))) rfl (fun hb9 => ?y9) (hK21 _ _ ?n9)
   case y9 =>
    refine Zf [3, 3] ?_
    refine Zc rfl (fun _ => Yg (Zb rfl) Zl) ?_
    refine Zc rfl (fun _ => Ze (Zb rfl)) ?_
    refine Zj [(79, _, _), (1, _, _), (2, _, _), (3, _, _), (4, _, _), (12, _, _)] (Za rfl (Za rfl (Za rfl (Za rfl (Za rfl (Za rfl (Zd _))))))) ?_
    exact Zh (fun a ha => ⟨ha, rfl⟩)
   case n9 =>
    refine Zz (Zb rfl) (fun h10 => ?_) (fun h10 => ?_)
    · (try simp only [bsimp] at h10)
      refine Zg fun K23 hK23 => ?_
      refine Zf [3, 3, 3, 3, 3, 3, 3, 0, 3, 0, 1, 3, 3] ?_
      refine Zc rfl (fun _ => Zi (Zb rfl)) ?_
      refine Zc rfl (fun _ => Zi (Zb rfl)) ?_
      refine Zs rfl rfl rfl (fun _ => Zi (Zb rfl)) ?_
      refine Zs rfl rfl rfl (fun _ => Yg (Zy rfl id) Zl) ?_
      refine Zc rfl (fun _ => Ye (Zb rfl) (Zy rfl id)) ?_
      refine Zc rfl (fun _ => Zi (Zb rfl)) ?_
      refine Zs rfl rfl rfl (fun _ => Zm Zv (Zb rfl)) ?_
      refine Yr rfl rfl rfl (Zt Zq (Zy rfl id) (fun _ => B1.at_ rfl)) ?_
      refine Zs rfl rfl rfl (fun _ => Xc Zo (Zy rfl id) Zl (fun hc => by (have hz := hc.2; first | (unfold lenK at hz; simp at hz; omega) | (simp at hz; omega))) (fun hc => (h0x (by (have hz := hc.2; first | (unfold lenK at hz; simp at hz; omega) | (simp at hz; omega)))).1)) ?_
      refine Yr rfl rfl rfl (Yb Zr (Zy rfl id) rfl (fun hc => (h0x (by (have hz := hc.2; first | (unfold lenK at hz; simp at hz; omega) | (simp at hz; omega)))).2.1.grow g)) ?_
      refine Xb rfl rfl rfl (fun _ => (Zu Jca Yl (Zk (Zy rfl id) (Zk Zl (Zn))) rfl)) (fun hc => kind_ok _ _ _ _ D _ ((h0x (by (have hz := hc.2; first | (unfold lenK at hz; simp at hz; omega) | (simp at hz; omega)))).2.2.1.grow g) (h0x (by (have hz := hc.2; first | (unfold lenK at hz; simp at hz; omega) | (simp at hz; omega)))).2.2.2) (fun w92 g92 => ?_)
      have g := g.trans (g92)
      replace B1 := B1.grow (g92)
      refine Zc rfl (fun _ => Ye (Zb rfl) (Zy rfl id)) ?_
      refine Zc rfl (fun _ => Ze (Zb rfl)) ?_
      refine Zj [(2, _, _)] (Za rfl (Zd _)) ?_
      refine Zh (hK23 _ _ ?_)
      refine Yf (Yj rfl rfl ?_)
      refine ⟨congrArg Value.bool ?_, g⟩
      unfold refStmt; simp only [anyK, h1, h2, h3, h4, h5, h7, h8, h10, cond_true, cond_false] <;> rfl
    (try simp only [bsimp] at h10)
    refine Zg fun K24 hK24 => ?_
    refine Zg fun K25 hK25 => ?_
    refine Zf [3, 3] ?_
    refine Zc rfl (fun _ => Yg (Zb rfl) Zl) ?_
    refine Zc rfl (fun _ => Ze (Zb rfl)) ?_
    refine Zj [(1, _, _), (2, _, _), (3, _, _), (4, _, _), (12, _, _), (94, _, _)] (Za rfl (Za rfl (Za rfl (Za rfl (Za rfl (Za rfl (Zd _))))))) ?_
    refine Zh (hK25 _ _ ?_)
    refine' Yk [(1, _, _), (2, _, _), (3, _, _), (4, _, _), (12, _, _)] (Za rfl (Za rfl (Za rfl (Za rfl (Za rfl (Za rfl (Zd _))))))) rfl (fun hb11 => ?y11) (hK24 _ _ ?n11)
    case y11 =>
     refine Zf [3, 3] ?_
     refine Zc rfl (fun _ => Yg (Zb rfl) Zl) ?_
     refine Zc rfl (fun _ => Ze (Zb rfl)) ?_
     refine Zj [(94, _, _), (1, _, _), (2, _, _), (3, _, _), (4, _, _), (12, _, _)] (Za rfl (Za rfl (Za rfl (Za rfl (Za rfl (Za rfl (Zd _))))))) ?_
     exact Zh (fun a ha => ⟨ha, rfl⟩)
    case n11 =>
     refine Zz (Zb rfl) (fun h12 => ?_) (fun h12 => ?_)
     · (try simp only [bsimp] at h12)
       refine Zg fun K26 hK26 => ?_
       refine Zf [3, 3, 3, 3, 3, 3, 3, 0, 3, 0, 1, 3, 3] ?_
       refine Zc rfl (fun _ => Zi (Zb rfl)) ?_
       refine Zc rfl (fun _ => Zi (Zb rfl)) ?_
       refine Zs rfl rfl rfl (fun _ => Zi (Zb rfl)) ?_
       refine Zs rfl rfl rfl (fun _ => Yg (Zy rfl id) Zl) ?_
       refine Zc rfl (fun _ => Ye (Zb rfl) (Zy rfl id)) ?_
       refine Zc rfl (fun _ => Zi (Zb rfl)) ?_
       refine Zs rfl rfl rfl (fun _ => Zm Zv (Zb rfl)) ?_
       refine Yr rfl rfl rfl (Zt Zq (Zy rfl id) (fun _ => B1.at_ rfl)) ?_
       refine Zs rfl rfl rfl (fun _ => Xc Zo (Zy rfl id) Zl (fun hc => by (have hz := hc.2; first | (unfold lenK at hz; simp at hz; omega) | (simp at hz; omega))) (fun hc => (h0x (by (have hz := hc.2; first | (unfold lenK at hz; simp at hz; omega) | (simp at hz; omega)))).1)) ?_
       refine Yr rfl rfl rfl (Yb Zr (Zy rfl id) rfl (fun hc => (h0x (by (have hz := hc.2; first | (unfold lenK at hz; simp at hz; omega) | (simp at hz; omega)))).2.1.grow g)) ?_
       refine Xb rfl rfl rfl (fun _ => (Zu Vk Yl (Zk (Zy rfl id) (Zn)) rfl)) (fun hc => (h0x (by (have hz := hc.2; first | (unfold lenK at hz; simp at hz; omega) | (simp at hz; omega)))).2.2.2.ex _ _ D _ ((h0x (by (have hz := hc.2; first | (unfold lenK at hz; simp at hz; omega) | (simp at hz; omega)))).2.2.1.grow g)) (fun w107 g107 => ?_)
       have g := g.trans (g107)
       replace B1 := B1.grow (g107)
       refine Zc rfl (fun _ => Ye (Zb rfl) (Zy rfl id)) ?_
       refine Zc rfl (fun _ => Ze (Zb rfl)) ?_
       refine Zj [(2, _, _)] (Za rfl (Zd _)) ?_
       refine Zh (hK26 _ _ ?_)
       refine Yf (Yj rfl rfl ?_)
       refine ⟨congrArg Value.bool ?_, g⟩
       unfold refStmt; simp only [anyK, h1, h2, h3, h4, h5, h7, h8, h10, h12, cond_true, cond_false] <;> rfl
     (try simp only [bsimp] at h12)
     refine Zg fun K27 hK27 => ?_
     refine Zf [3, 3] ?_
     refine Zc rfl (fun _ => Yg (Zb rfl) Zl) ?_
     refine Zc rfl (fun _ => Ze (Zb rfl)) ?_
     refine Zj [(1, _, _), (2, _, _), (3, _, _), (4, _, _), (12, _, _), (109, _, _)] (Za rfl (Za rfl (Za rfl (Za rfl (Za rfl (Za rfl (Zd _))))))) ?_
     refine Zh (hK27 _ _ ?_)
     refine Zz (Zb rfl) (fun h13 => ?_) (fun h13 => ?_)
     · (try simp only [bsimp] at h13)
       refine Zg fun K28 hK28 => ?_
       refine Zf [3, 3, 3, 3, 3, 3, 3, 0, 1, 3, 3] ?_
       refine Zc rfl (fun _ => Zi (Zb rfl)) ?_
       refine Zc rfl (fun _ => Zi (Zb rfl)) ?_
       refine Zs rfl rfl rfl (fun _ => Zi (Zb rfl)) ?_
       refine Zs rfl rfl rfl (fun _ => Zxb (Zy rfl id) Zl) ?_
       refine Zc rfl (fun _ => Ye (Zb rfl) (Zy rfl id)) ?_
       refine Zc rfl (fun _ => Zi (Zb rfl)) ?_
       refine Zs rfl rfl rfl (fun _ => Zm Zv (Zb rfl)) ?_
       refine Yr rfl rfl rfl (Zt Zq (Zy rfl id) (fun _ => B1.at_ rfl)) ?_
       refine Xb rfl rfl rfl (fun _ => (Zu Uo Yl (Zk (Zy rfl id) (Zn)) rfl)) (fun hc => Jsa _ _ _ D _ (hk.grow g) hr hln) (fun w119 g119 => ?_)
       have g := g.trans (g119)
       replace B1 := B1.grow (g119)
       refine Zc rfl (fun _ => Ye (Zb rfl) (Zy rfl id)) ?_
       refine Zc rfl (fun _ => Ze (Zb rfl)) ?_
       refine Zj [(2, _, _)] (Za rfl (Zd _)) ?_
       refine Zh (hK28 _ _ ?_)
       refine Yf (Yj rfl rfl ?_)
       refine ⟨congrArg Value.bool ?_, g⟩
       unfold refStmt; simp only [anyK, h1, h2, h3, h4, h5, h7, h8, h10, h12, h13, cond_true, cond_false] <;> rfl
     (try simp only [bsimp] at h13)
     refine Zg fun K29 hK29 => ?_
     refine Zf [3, 3] ?_
     refine Zc rfl (fun _ => Yg (Zb rfl) Zl) ?_
     refine Zc rfl (fun _ => Ze (Zb rfl)) ?_
     refine Zj [(1, _, _), (2, _, _), (3, _, _), (4, _, _), (121, _, _)] (Za rfl (Za rfl (Za rfl (Za rfl (Za rfl (Zd _)))))) ?_
     refine Zh (hK29 _ _ ?_)
     refine Zz (Zb rfl) (fun h14 => ?_) (fun h14 => ?_)
     · (try simp only [bsimp] at h14)
       refine Zg fun K30 hK30 => ?_
       refine Zf [3, 3, 3, 3, 3, 3, 3, 0, 3, 0, 1, 3, 3, 0, 3, 0, 1, 3, 3, 3, 3, 0, 3, 0, 1, 3, 3] ?_
       refine Zc rfl (fun _ => Zi (Zb rfl)) ?_
       refine Zc rfl (fun _ => Zi (Zb rfl)) ?_
       refine Zs rfl rfl rfl (fun _ => Zi (Zb rfl)) ?_
       refine Zs rfl rfl rfl (fun _ => Yg (Zy rfl id) Zl) ?_
       refine Zc rfl (fun _ => Ye (Zb rfl) (Zy rfl id)) ?_
       refine Zc rfl (fun _ => Zi (Zb rfl)) ?_
       refine Zs rfl rfl rfl (fun _ => Zm Zv (Zb rfl)) ?_
       refine Yr rfl rfl rfl (Zt Zq (Zy rfl id) (fun _ => B1.at_ rfl)) ?_
       refine Zs rfl rfl rfl (fun _ => Xc Zo (Zy rfl id) Zl (fun hc => by (have hz := hc.2; first | (unfold lenK at hz; simp at hz; omega) | (simp at hz; omega))) (fun hc => (h0x (by (have hz := hc.2; first | (unfold lenK at hz; simp at hz; omega) | (simp at hz; omega)))).1)) ?_
       refine Yr rfl rfl rfl (Yb Zr (Zy rfl id) rfl (fun hc => (h0x (by (have hz := hc.2; first | (unfold lenK at hz; simp at hz; omega) | (simp at hz; omega)))).2.1.grow g)) ?_
       refine Xb rfl rfl rfl (fun _ => (Zu Qz Yl (Zk (Zy rfl id) (Zn)) rfl)) (fun hc => Zfb _ _ _ _) (fun w133 g133 => ?_)
       have g := g.trans (g133)
       replace B1 := B1.grow (g133)
       refine Zs rfl rfl rfl (fun _ => Zi (Zy rfl id)) ?_
       refine Zs rfl rfl rfl (fun _ => Zm Zv (Zb rfl)) ?_
       refine Yr rfl rfl rfl (Zt Zq (Zy rfl id) (fun _ => B1.at_ rfl)) ?_
       refine Zs rfl rfl rfl (fun _ => Xc Zo (Zy rfl id) Zl (fun hc => by (have hz := hc.1.2; first | (unfold lenK at hz; simp at hz; omega) | (simp at hz; omega))) (fun hc => (h0x (by (have hz := hc.1.2; first | (unfold lenK at hz; simp at hz; omega) | (simp at hz; omega)))).1)) ?_
       refine Yr rfl rfl rfl (Yb Zr (Zy rfl id) rfl (fun hc => (h0x (by (have hz := hc.1.2; first | (unfold lenK at hz; simp at hz; omega) | (simp at hz; omega)))).2.1.grow g)) ?_
       refine Xb rfl rfl rfl (fun _ => (Zu Vk Yl (Zk (Zy rfl id) (Zn)) rfl)) (fun hc => (h0x (by (have hz := hc.1.2; first | (unfold lenK at hz; simp at hz; omega) | (simp at hz; omega)))).2.2.2.ex _ _ D _ ((h0x (by (have hz := hc.1.2; first | (unfold lenK at hz; simp at hz; omega) | (simp at hz; omega)))).2.2.1.grow g)) (fun w139 g139 => ?_)
       have g := g.trans (g139)
       replace B1 := B1.grow (g139)
       refine Zs rfl rfl rfl (fun _ => Yz (Zy rfl id) (Zy rfl id)) ?_
       refine Zc rfl (fun _ => Ye (Zb rfl) (Zy rfl id)) ?_
       refine Zc rfl (fun _ => Zi (Zb rfl)) ?_
       refine Zs rfl rfl rfl (fun _ => Zm Zv (Zb rfl)) ?_
       refine Yr rfl rfl rfl (Zt Zq (Zy rfl id) (fun _ => B1.at_ rfl)) ?_
       refine Zs rfl rfl rfl (fun _ => Xc Zo (Zy rfl id) Zl (fun hc => by (have hz := hc.2; first | (unfold lenK at hz; simp at hz; omega) | (simp at hz; omega))) (fun hc => (h1x (by (have hz := hc.2; first | (unfold lenK at hz; simp at hz; omega) | (simp at hz; omega)))).1)) ?_
       refine Yr rfl rfl rfl (Yb Zr (Zy rfl id) rfl (fun hc => (h1x (by (have hz := hc.2; first | (unfold lenK at hz; simp at hz; omega) | (simp at hz; omega)))).2.1.grow g)) ?_
       refine Xb rfl rfl rfl (fun _ => (Zu Un Yl (Zk (Zy rfl id) (Zn)) rfl)) (fun hc => (h1x (by (have hz := hc.2; first | (unfold lenK at hz; simp at hz; omega) | (simp at hz; omega)))).2.2.2.bl _ _ D _ ((h1x (by (have hz := hc.2; first | (unfold lenK at hz; simp at hz; omega) | (simp at hz; omega)))).2.2.1.grow g)) (fun w147 g147 => ?_)
       have g := g.trans (g147)
       replace B1 := B1.grow (g147)
       refine Zc rfl (fun _ => Ye (Zb rfl) (Zy rfl id)) ?_
       refine Zc rfl (fun _ => Ze (Zb rfl)) ?_
       refine Zj [(2, _, _)] (Za rfl (Zd _)) ?_
       refine Zh (hK30 _ _ ?_)
       refine Yf (Yj rfl rfl ?_)
       refine ⟨congrArg Value.bool ?_, g⟩
       unfold refStmt; simp only [anyK, h1, h2, h3, h4, h5, h7, h8, h10, h12, h13, h14, cond_true, cond_false] <;> rfl
     (try simp only [bsimp] at h14)
     refine Yq (hK4 _ _ ?_)
     refine Yi [(2, _, _)] (Za rfl (Zd _)) ?_
     refine Zg fun K31 hK31 => ?_
     refine Zf [3] ?_
     refine Zc rfl (fun _ => Ze Zl) ?_
     refine Zh (hK31 _ _ ?_)
     refine Yf (Yj rfl rfl ?_)
     refine ⟨congrArg Value.bool ?_, g⟩
     unfold refStmt; simp only [anyK, h1, h2, h3, h4, h5, h7, h8, h10, h12, h13, h14, cond_true, cond_false] <;> rfl
theorem Uda {t : Nd} (h : t.kind = 13 ∨ t.kind = 11) (hp : stmtB t = true) : t.kids.length = 1 := Vpb h (Bool.and_eq_true_iff.1 hp).2
theorem Yjc {t : Nd} (h : t.kind = 12) (hp : stmtB t = true) : t.kids.length = 2 := Xla (.inl h) (Bool.and_eq_true_iff.1 hp).2
theorem iscomm_ok (t : Nd) (p : Option Addr) (c : Nat) (D : Nat → Prop) (w : World) (hk : Kd w D t.kids (.slice p t.kids.length c)) (ih : Blw t) (hln : t.kids.length ≤ 1000000) : Ret PP Yeb #[ndV t (.slice p t.kids.length c)] w fun r w' => r = .bool (commF t) ∧ G w w' := by
  rw [← Ygc]
  have g := G.refl w
  obtain ⟨p0, c0, h0x⟩ := Yib hk ih 0
  obtain ⟨p1, c1, h1x⟩ := Yib hk ih 1
  refine Ym (m := 50) Qqb rfl rfl [(0, True, _)] (Za rfl (Zd _)) ?_
  refine Zg fun K1 hK1 => ?_
  refine Zf [1, 3] ?_
  refine Wd rfl (Zb rfl) rfl ?_
  intro b1 w1 N1
  have l1 := N1.ge g
  have g := g.trans (N1.g)
  have B1 := N1.blk
  refine Zc rfl (fun _ => Ze Zl) ?_
  refine Zj [(1, _, _), (2, _, _)] (Za rfl (Za rfl (Zd _))) ?_
  refine Zh (hK1 _ _ ?_)
  refine Zg fun K2 hK2 => ?_
  refine Zg fun K3 hK3 => ?_
  refine Zf [3, 0] ?_
  refine Zc rfl (fun _ => Zm Ys (Zb rfl)) ?_
  refine Ya rfl (Zt Yy (Zb rfl) (fun _ => B1.at_ rfl)) ?_
  refine Zj [(1, _, _), (2, _, _), (4, _, _)] (Za rfl (Za rfl (Za rfl (Zd _)))) ?_
  refine Zh (hK3 _ _ ?_)
  refine Yp ?_
  refine Zg fun K4 hK4 => ?_
  refine Zg fun K5 hK5 => ?_
  refine Zf [3, 3] ?_
  refine Zc rfl (fun _ => Yg (Zb rfl) Zl) ?_
  refine Zc rfl (fun _ => Ze (Zb rfl)) ?_
  refine Zj [(1, _, _), (2, _, _), (4, _, _), (5, _, _)] (Za rfl (Za rfl (Za rfl (Za rfl (Zd _))))) ?_
  refine Zh (hK5 _ _ ?_)
  refine' Yk [(1, _, _), (2, _, _), (4, _, _)] (Za rfl (Za rfl (Za rfl (Za rfl (Zd _))))) rfl (fun hb1 => ?y1) (hK4 _ _ ?n1)
  case y1 =>
   refine Zf [3, 3] ?_
   refine Zc rfl (fun _ => Yg (Zb rfl) Zl) ?_
   refine Zc rfl (fun _ => Ze (Zb rfl)) ?_
   refine Zj [(5, _, _), (1, _, _), (2, _, _), (4, _, _)] (Za rfl (Za rfl (Za rfl (Za rfl (Zd _))))) ?_
   exact Zh (fun a ha => ⟨ha, rfl⟩)
  case n1 =>
   refine Zz (Zb rfl) (fun h2 => ?_) (fun h2 => ?_)
   · (try simp only [bsimp] at h2)
     refine Zg fun K6 hK6 => ?_
     refine Zf [0, 1, 3, 0, 1, 3, 3] ?_
     refine Ya rfl (Yb Zr (Zb rfl) rfl (fun _ => B1.row)) ?_
     refine Xe rfl (Zu Jk Yl (Zk (Zb rfl) (Zn)) rfl) (Uca t _ _ D _ (hk.grow g) ih hln) (fun w9 g9 => ?_)
     have g := g.trans (g9)
     replace B1 := B1.grow (g9)
     refine Zc rfl (fun _ => Zi (Zb rfl)) ?_
     refine Yr rfl rfl rfl (Yb Zr (Zb rfl) rfl (fun _ => B1.row)) ?_
     refine Xb rfl rfl rfl (fun _ => (Zu Qz Yl (Zk (Zy rfl id) (Zn)) rfl)) (fun hc => Zfb _ _ _ _) (fun w12 g12 => ?_)
     have g := g.trans (g12)
     replace B1 := B1.grow (g12)
     refine Zc rfl (fun _ => Yz (Zb rfl) (Zy rfl id)) ?_
     refine Zc rfl (fun _ => Ze (Zb rfl)) ?_
     refine Zj [(2, _, _)] (Za rfl (Zd _)) ?_
     refine Zh (hK6 _ _ ?_)
     refine Yf (Yj rfl rfl ?_)
     refine ⟨congrArg Value.bool ?_, g⟩
     unfold Wsa; simp only [anyK, h2, cond_true, cond_false] <;> rfl
   (try simp only [bsimp] at h2)
   refine Zg fun K7 hK7 => ?_
   refine Zf [3, 3] ?_
   refine Zc rfl (fun _ => Yg (Zb rfl) Zl) ?_
   refine Zc rfl (fun _ => Ze (Zb rfl)) ?_
   refine Zj [(1, _, _), (2, _, _), (4, _, _), (14, _, _)] (Za rfl (Za rfl (Za rfl (Za rfl (Zd _))))) ?_
   refine Zh (hK7 _ _ ?_)
   refine Zz (Zb rfl) (fun h3 => ?_) (fun h3 => ?_)
   · have hk3 : t.kind = 13 := by simpa using h3
     refine Zg fun K8 hK8 => ?_
     refine Zf [0, 1, 3, 3, 0, 3, 3, 0, 3, 3, 3] ?_
     refine Ya rfl (Yb Zr (Zb rfl) rfl (fun _ => B1.row)) ?_
     refine Xe rfl (Zu Jk Yl (Zk (Zb rfl) (Zn)) rfl) (Uca t _ _ D _ (hk.grow g) ih hln) (fun w17 g17 => ?_)
     have g := g.trans (g17)
     replace B1 := B1.grow (g17)
     refine Zc rfl (fun _ => Zi (Zb rfl)) ?_
     refine Zs rfl rfl rfl (fun _ => Zm Zv (Zb rfl)) ?_
     refine Yr rfl rfl rfl (Zt Zq (Zy rfl id) (fun _ => B1.at_ rfl)) ?_
     refine Zs rfl rfl rfl (fun _ => Xc Zo (Zy rfl id) Zl (fun hc => by have := Uda (.inl hk3) hc.2; omega) (fun hc => (h0x (by have := Uda (.inl hk3) hc.2; omega)).1)) ?_
     refine Zs rfl rfl rfl (fun _ => Zm Ys (Zy rfl id)) ?_
     refine Yr rfl rfl rfl (Zt Yy (Zy rfl id) (fun hc => ((h0x (by have := Uda (.inl hk3) hc.2; omega)).2.1.grow g) 0 _ rfl)) ?_
     refine Zs rfl rfl rfl (fun _ => Yg (Zy rfl id) Zl) ?_
     refine Zc rfl (fun _ => Ye (Zb rfl) (Zy rfl id)) ?_
     refine Zc rfl (fun _ => Ze (Zb rfl)) ?_
     refine Zj [(2, _, _)] (Za rfl (Zd _)) ?_
     refine Zh (hK8 _ _ ?_)
     refine Yf (Yj rfl rfl ?_)
     refine ⟨congrArg Value.bool ?_, g⟩
     unfold Wsa; simp only [anyK, h2, h3, cond_true, cond_false] <;> rfl
   (try simp only [bsimp] at h3)
   refine Zg fun K9 hK9 => ?_
   refine Zf [3, 3] ?_
   refine Zc rfl (fun _ => Yg (Zb rfl) Zl) ?_
   refine Zc rfl (fun _ => Ze (Zb rfl)) ?_
   refine Zj [(1, _, _), (2, _, _), (4, _, _), (26, _, _)] (Za rfl (Za rfl (Za rfl (Za rfl (Zd _))))) ?_
   refine Zh (hK9 _ _ ?_)
   refine Zz (Zb rfl) (fun h4 => ?_) (fun h4 => ?_)
   · have hk4 : t.kind = 12 := by simpa using h4
     refine Zg fun K10 hK10 => ?_
     refine Zf [0, 1, 3, 3, 0, 3, 3, 0, 3, 3, 3] ?_
     refine Ya rfl (Yb Zr (Zb rfl) rfl (fun _ => B1.row)) ?_
     refine Xe rfl (Zu Jk Yl (Zk (Zb rfl) (Zn)) rfl) (Uca t _ _ D _ (hk.grow g) ih hln) (fun w29 g29 => ?_)
     have g := g.trans (g29)
     replace B1 := B1.grow (g29)
     refine Zc rfl (fun _ => Zi (Zb rfl)) ?_
     refine Zs rfl rfl rfl (fun _ => Zm Zv (Zb rfl)) ?_
     refine Yr rfl rfl rfl (Zt Zq (Zy rfl id) (fun _ => B1.at_ rfl)) ?_
     refine Zs rfl rfl rfl (fun _ => Xc Zo (Zy rfl id) Zl (fun hc => by have := Yjc hk4 hc.2; omega) (fun hc => (h1x (by have := Yjc hk4 hc.2; omega)).1)) ?_
     refine Zs rfl rfl rfl (fun _ => Zm Ys (Zy rfl id)) ?_
     refine Yr rfl rfl rfl (Zt Yy (Zy rfl id) (fun hc => ((h1x (by have := Yjc hk4 hc.2; omega)).2.1.grow g) 0 _ rfl)) ?_
     refine Zs rfl rfl rfl (fun _ => Yg (Zy rfl id) Zl) ?_
     refine Zc rfl (fun _ => Ye (Zb rfl) (Zy rfl id)) ?_
     refine Zc rfl (fun _ => Ze (Zb rfl)) ?_
     refine Zj [(2, _, _)] (Za rfl (Zd _)) ?_
     refine Zh (hK10 _ _ ?_)
     refine Yf (Yj rfl rfl ?_)
     refine ⟨congrArg Value.bool ?_, g⟩
     unfold Wsa; simp only [anyK, h2, h3, h4, cond_true, cond_false] <;> rfl
   (try simp only [bsimp] at h4)
   refine Zg fun K11 hK11 => ?_
   refine Zf [3, 3] ?_
   refine Zc rfl (fun _ => Yg (Zb rfl) Zl) ?_
   refine Zc rfl (fun _ => Ze (Zb rfl)) ?_
   refine Zj [(1, _, _), (2, _, _), (38, _, _)] (Za rfl (Za rfl (Za rfl (Zd _)))) ?_
   refine Zh (hK11 _ _ ?_)
   refine Zz (Zb rfl) (fun h5 => ?_) (fun h5 => ?_)
   · have hk5 : t.kind = 11 := by simpa using h5
     refine Zg fun K12 hK12 => ?_
     refine Zf [0, 1, 3, 3, 0, 3, 3, 0, 3, 3, 3] ?_
     refine Ya rfl (Yb Zr (Zb rfl) rfl (fun _ => B1.row)) ?_
     refine Xe rfl (Zu Jk Yl (Zk (Zb rfl) (Zn)) rfl) (Uca t _ _ D _ (hk.grow g) ih hln) (fun w41 g41 => ?_)
     have g := g.trans (g41)
     replace B1 := B1.grow (g41)
     refine Zc rfl (fun _ => Zi (Zb rfl)) ?_
     refine Zs rfl rfl rfl (fun _ => Zm Zv (Zb rfl)) ?_
     refine Yr rfl rfl rfl (Zt Zq (Zy rfl id) (fun _ => B1.at_ rfl)) ?_
     refine Zs rfl rfl rfl (fun _ => Xc Zo (Zy rfl id) Zl (fun hc => by have := Uda (.inr hk5) hc.2; omega) (fun hc => (h0x (by have := Uda (.inr hk5) hc.2; omega)).1)) ?_
     refine Zs rfl rfl rfl (fun _ => Zm Ys (Zy rfl id)) ?_
     refine Yr rfl rfl rfl (Zt Yy (Zy rfl id) (fun hc => ((h0x (by have := Uda (.inr hk5) hc.2; omega)).2.1.grow g) 0 _ rfl)) ?_
     refine Zs rfl rfl rfl (fun _ => Yg (Zy rfl id) Zl) ?_
     refine Zc rfl (fun _ => Ye (Zb rfl) (Zy rfl id)) ?_
     refine Zc rfl (fun _ => Ze (Zb rfl)) ?_
     refine Zj [(2, _, _)] (Za rfl (Zd _)) ?_
     refine Zh (hK12 _ _ ?_)
     refine Yf (Yj rfl rfl ?_)
     refine ⟨congrArg Value.bool ?_, g⟩
     unfold Wsa; simp only [anyK, h2, h3, h4, h5, cond_true, cond_false] <;> rfl
   (try simp only [bsimp] at h5)
   refine Yq (hK2 _ _ ?_)
   refine Yi [(2, _, _)] (Za rfl (Zd _)) ?_
   refine Zg fun K13 hK13 => ?_
   refine Zf [3] ?_
   refine Zc rfl (fun _ => Ze Zl) ?_
   refine Zh (hK13 _ _ ?_)
   refine Yf (Yj rfl rfl ?_)
   refine ⟨congrArg Value.bool ?_, g⟩
   unfold Wsa; simp only [anyK, h2, h3, h4, h5, cond_true, cond_false] <;> rfl
theorem rok_all : ∀ n t, count t ≤ n → n ≤ 1000000 → ROk t := by
  intro n
  induction n with
  | zero => intro t h; have := Wg t; omega
  | succ n ihn =>
    intro t h hn
    have ih : Blw t := fun k hk => ihn k (by omega) (by omega)
    have hln : t.kids.length ≤ 1000000 := by have := Qm t; omega
    exact ⟨fun p c D w hk => isexpr_ok t p c D w hk ih hln, fun p c D w hk => Yic t p c D w hk ih hln, fun p c D w hk => Uca t p c D w hk ih hln, fun p c D w hk => isif_ok t p c D w hk ih, fun p c D w hk => iscomm_ok t p c D w hk ih hln⟩
theorem rok (t : Nd) (h : count t ≤ 1000000) : ROk t := rok_all _ t h (Nat.le_refl _)
end Go.Rk
namespace Go.Rk
open Go Go.RowKit
set_option linter.unusedVariables false
section
variable {P : Program} {n : Nat} {σ : List Ent} {c : Prop} {wb : World} {ty : TypeId}
theorem rd_max {x y : Operand} {k k' : IntKind} {a b : Int} {ts : Array TypeId} (h : Ev n σ c x (.int k a)) (h' : Ev n σ c y (.int k' b)) : Rd P n σ c wb (.call { callee := .builtin .max, args := #[x, y], argTypes := ts }) ty (.int k (if b > a then b else a)) := fun d pos after gd a ha hc w1 _ => by
 simp [execOp, resolve, invoke, builtin, h a ha hc, h' a ha hc, Builtin.max_, Builtin.max2]
end
theorem max_nat (a b : Nat) : (if (b : Int) > a then (b : Int) else a) = ((max a b : Nat) : Int) := by split <;> omega
end Go.Rk
