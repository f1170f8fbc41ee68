/- Merged texts of one road: SynB. Conditions: each text's own. -/
import Derived.Test.YteicjpedahoilaaGreatDoorE04
set_option linter.unusedSimpArgs false
set_option linter.unusedVariables false
namespace Go.Rk
open Go Go.RowKit
def kidAt (t : Nd) (i : Nat) : Nd := t.kids.getD i nd0
theorem Xu {t : Nd} {i : Nat} (h : i < t.kids.length) : kidAt t i = t.kids[i] := by simp [kidAt, List.getD_eq_getElem?_getD, List.getElem?_eq_getElem h]
def kidsB (t : Nd) (qs : List (Int → Bool)) : Bool := decide (t.kids.length = qs.length) && (List.range qs.length).all fun i => (qs.getD i (fun _ => false)) (kidAt t i).kind
def everyB (t : Nd) (q : Int → Bool) : Bool := t.kids.all fun k => q k.kind
theorem Jh (t : Nd) (p : Option Addr) (c : Nat) (D : Nat → Prop) (qs : List (Int → Bool)) (vs : List Value) (b o cap : Nat) (w : World) (hk : Kd w D t.kids (.slice p t.kids.length c)) (hl : vs.length = qs.length) (hR : RowAt w b o vs)
    (hF : ∀ i (h : i < vs.length), FnV PP (qs.getD i (fun _ => false)) vs[i] w) (hc : t.kids.length ≤ 1000000) : Ret PP Zoc #[ndV t (.slice p t.kids.length c), .slice (some ⟨b, o, none⟩) qs.length cap] w fun v w' => v = .bool (kidsB t qs) ∧ G w w' := by
  have g := G.refl w
  obtain ⟨p', c', hpe, _, hks⟩ := hk
  injection hpe with hpe _ hce
  subst hpe hce
  refine Ym (m := 30) Vbb rfl rfl [(0, True, _), (1, True, _)] (Za rfl (Za rfl (Zd _))) ?_
  refine Zg fun K1 hK1 => ?_
  refine Zf [1, 3] ?_
  refine Wd rfl (Zb rfl) rfl ?_
  intro b2 w2 N2
  have l2 := N2.ge g
  have g := g.trans (N2.g)
  have B2 := N2.blk
  refine Zc rfl (fun _ => Ze Zl) ?_
  refine Zj [(1, _, _), (2, _, _), (4, _, _)] (Za rfl (Za rfl (Za rfl (Zd _)))) ?_
  refine Zh (hK1 _ _ ?_)
  refine Zg fun K2 hK2 => ?_
  refine Zg fun K3 hK3 => ?_
  refine Zf [3, 0, 3, 3, 3, 3] ?_
  refine Zc rfl (fun _ => Zm Zv (Zb rfl)) ?_
  refine Ya rfl (Zt Zq (Zb rfl) (fun _ => B2.at_ rfl)) ?_
  refine Zc rfl (fun _ => Xx Zo (Zb rfl)) ?_
  refine Zc rfl (fun _ => Zi (Zb rfl)) ?_
  refine Zc rfl (fun _ => Xx Xj (Zb rfl)) ?_
  refine Zc rfl (fun _ => Qi (Zb rfl) (Zb rfl)) ?_
  refine Zj [(1, _, _), (2, _, _), (4, _, _), (12, _, _)] (Za rfl (Za rfl (Za rfl (Za rfl (Zd _))))) ?_
  refine Zh (hK3 _ _ ?_)
  refine Zz (Zb rfl) (fun h1 => ?_) (fun h1 => ?_)
  · have hN : kidsB t qs = false := by
      have : ¬ t.kids.length = qs.length := by simp at h1; omega
      rw [kidsB, decide_eq_false this]; rfl
    refine Zg fun K4 hK4 => ?_
    refine Zf [3] ?_
    refine Zc rfl (fun _ => Ze Zl) ?_
    refine Zj [(1, _, _), (2, _, _), (4, _, _)] (Za rfl (Za rfl (Za rfl (Zd _)))) ?_
    refine Zh (hK4 _ _ ?_)
    refine Yf (Yj rfl rfl ?_)
    rw [hN]; exact ⟨rfl, g⟩
  have hle : t.kids.length = qs.length := by simp at h1; omega
  refine Yq (hK2 _ _ ?_)
  refine Yi [(1, _, _), (2, _, _), (4, _, _)] (Za rfl (Za rfl (Za rfl (Zd _)))) ?_
  refine Zg fun K5 hK5 => ?_
  refine Zg fun K6 hK6 => ?_
  refine Zf [3, 3, 3] ?_
  refine Zc rfl (fun _ => Zi (Zb rfl)) ?_
  refine Zc rfl (fun _ => Xx Xj (Zb rfl)) ?_
  refine Zc rfl (fun _ => Zi Zl) ?_
  refine Zj [(2, _, _), (4, _, _), (13, _, _), (14, _, _), (15, _, _)] (Za rfl (Za rfl (Za rfl (Za rfl (Za rfl (Zd _)))))) ?_
  refine Zh (hK6 _ _ ?_)
  refine Yp ?_
  refine Wv (fun (i : Nat) u1 => (i ≤ qs.length ∧ ∀ j, j < i → (qs.getD j (fun _ => false)) (kidAt t j).kind = true) ∧ G w2 u1) [(2, True, _), (13, True, _), (14, True, _)] (fun (i : Nat) => [(15, True, .int .i64 i)]) (fun (i : Nat) => qs.length - i) (0) ⟨⟨Nat.zero_le _, fun j hj => absurd hj (Nat.not_lt_zero j)⟩, G.refl _⟩ (Za rfl (Za rfl (Za rfl (Za rfl (Zd _))))) ?_
  rintro i u1 ⟨hI1, gl1⟩
  have g := g.trans gl1
  replace B2 := B2.grow (gl1)
  refine Zg fun K7 hK7 => ?_
  refine Zf [3] ?_
  refine Zc rfl (fun _ => Vh (Zb rfl) (Zb rfl)) ?_
  refine Zh (hK7 _ _ ?_)
  refine Yi [(2, _, _), (13, _, _), (14, _, _), (15, _, _), (16, _, _)] (Za rfl (Za rfl (Za rfl (Za rfl (Za rfl (Zd _)))))) ?_
  refine Zg fun K8 hK8 => ?_
  refine Zz (Zb rfl) (fun h2 => ?_) (fun h2 => ?_)
  · replace h2 : i < qs.length := by simp only [decide_eq_true_eq] at h2; omega
    obtain ⟨f, fs, cs, hfe, hgo, hf⟩ := hF i (by omega)
    have hv := hR i _ (List.getElem?_eq_getElem (show i < vs.length by omega))
    rw [hfe] at hv
    obtain ⟨b2, o2, rfl, hD, xs, hR2, hX⟩ := hks (by omega)
    obtain ⟨p2, c2, hcell, _⟩ := Yna hR2 hX (show i < t.kids.length by omega)
    rw [← Xu] at hcell
    refine Yq (hK8 _ _ ?_)
    refine Yi [(2, _, _), (13, _, _), (14, _, _), (15, _, _)] (Za rfl (Za rfl (Za rfl (Za rfl (Zd _))))) ?_
    refine Zg fun K9 hK9 => ?_
    refine Yp ?_
    refine Zg fun K10 hK10 => ?_
    refine Zf [3, 3, 0, 3, 3] ?_
    refine Zc rfl (fun _ => Zi (Zb rfl)) ?_
    refine Zc rfl (fun _ => Uc Xj (Zb rfl) (Zb rfl) (fun _ => by omega)) ?_
    refine Ya rfl (Zt Zha (Zb rfl) (fun _ => by have := Vla g hv; simpa using this)) ?_
    refine Zc rfl (fun _ => Ze (Zb rfl)) ?_
    refine Zc rfl (fun _ => Ze (Zb rfl)) ?_
    refine Zj [(2, _, _), (5, _, _), (6, _, _), (13, _, _), (14, _, _), (15, _, _)] (Za rfl (Za rfl (Za rfl (Za rfl (Za rfl (Za rfl (Zd _))))))) ?_
    refine Zh (hK10 _ _ ?_)
    refine Zg fun K11 hK11 => ?_
    refine Zf [3, 3, 0, 3, 3, 3, 0, 1, 3] ?_
    refine Zc rfl (fun _ => Zi (Zb rfl)) ?_
    refine Zc rfl (fun _ => Zm Zv (Zb rfl)) ?_
    refine Ya rfl (Zt Zq (Zb rfl) (fun _ => B2.at_ rfl)) ?_
    refine Zc rfl (fun _ => Zi (Zb rfl)) ?_
    refine Zc rfl (fun _ => Uc Zo (Zb rfl) (Zb rfl) (fun _ => by omega)) ?_
    refine Zc rfl (fun _ => Zm Ys (Zb rfl)) ?_
    refine Ya rfl (Zt Yy (Zb rfl) (fun _ => (hcell.grow g) 0 _ rfl)) ?_
    refine Xe rfl (Zu hgo (Zb rfl) (Zk (Zb rfl) (Zn)) rfl) (hf _ _ g) (fun w27 g27 => ?_)
    have g := g.trans (g27)
    try have gl1 := gl1.trans (g27)
    replace B2 := B2.grow (g27)
    refine Zc rfl (fun _ => Ub (Zb rfl)) ?_
    refine Zj [(2, _, _), (13, _, _), (14, _, _), (15, _, _), (28, _, _)] (Za rfl (Za rfl (Za rfl (Za rfl (Za rfl (Zd _)))))) ?_
    refine Zh (hK11 _ _ ?_)
    refine Zz (Zb rfl) (fun h3 => ?_) (fun h3 => ?_)
    · (try simp only [bsimp] at h3)
      refine Zg fun K12 hK12 => ?_
      refine Zf [3] ?_
      refine Zc rfl (fun _ => Ze Zl) ?_
      refine Zj [(2, _, _), (4, _, _), (13, _, _), (14, _, _), (15, _, _)] (Za rfl (Za rfl (Za rfl (Za rfl (Za rfl (Zd _)))))) ?_
      refine Zh (hK12 _ _ ?_)
      refine Yf (Yj rfl rfl ?_)
      refine ⟨congrArg Value.bool ?_, g⟩
      rw [eq_comm, kidsB, decide_eq_true hle, Bool.true_and, List.all_eq_false]
      exact ⟨i, List.mem_range.2 h2, by simpa using h3⟩
    (try simp only [bsimp] at h3)
    refine Yq (hK9 _ _ ?_)
    refine Yi [(2, _, _), (13, _, _), (14, _, _), (15, _, _)] (Za rfl (Za rfl (Za rfl (Za rfl (Zd _))))) ?_
    refine Zf [3, 3] ?_
    refine Zc rfl (fun _ => Xq (Zb rfl) Zl (fun _ => by omega)) ?_
    refine Zc rfl (fun _ => Zi (Zb rfl)) ?_
    refine Zj [(15, _, _), (2, _, _), (13, _, _), (14, _, _)] (Za rfl (Za rfl (Za rfl (Za rfl (Zd _))))) ?_
    refine Zh (fun a ha => ?_)
    refine ⟨i + 1, ha, ⟨⟨h2, fun j hj => ?_⟩, gl1⟩, by omega⟩
    by_cases e : j = i
    · subst e; simpa using h3
    · exact hI1.2 j (by omega)
  (try simp only [bsimp] at h2)
  refine Wa rfl (hK5 _ _ ?_)
  refine Yi [] (Zd _) ?_
  refine Zg fun K13 hK13 => ?_
  refine Zf [3] ?_
  refine Zc rfl (fun _ => Ze Zl) ?_
  refine Zh (hK13 _ _ ?_)
  refine Yf (Yj rfl rfl ?_)
  refine ⟨congrArg Value.bool ?_, g⟩
  rw [eq_comm, kidsB, decide_eq_true hle, Bool.true_and, List.all_eq_true]
  intro j hj
  exact hI1.2 j (by have := List.mem_range.1 hj; simp only [decide_eq_false_iff_not] at h2; omega)
theorem Jqa (t : Nd) (p : Option Addr) (c : Nat) (D : Nat → Prop) (q : Int → Bool) (v : Value) (w : World) (hk : Kd w D t.kids (.slice p t.kids.length c)) (hF : FnV PP q v w) (hc : t.kids.length ≤ 1000000) : Ret PP Qkb #[ndV t (.slice p t.kids.length c), .int .i64 0, v] w fun v w' => v = .bool (everyB t q) ∧ G w w' := by
  have g := G.refl w
  obtain ⟨p', c', hpe, _, hks⟩ := hk
  injection hpe with hpe _ hce
  subst hpe hce
  obtain ⟨f, fs, cs, rfl, hgo, hf⟩ := hF
  refine Ym (m := 29) Xvb rfl rfl [(0, True, _), (1, True, _), (2, True, _)] (Za rfl (Za rfl (Za rfl (Zd _)))) ?_
  refine Zg fun K1 hK1 => ?_
  refine Zf [1, 3] ?_
  refine Wd rfl (Zb rfl) rfl ?_
  intro b3 w3 N3
  have l3 := N3.ge g
  have g := g.trans (N3.g)
  have B3 := N3.blk
  refine Zc rfl (fun _ => Ze Zl) ?_
  refine Zj [(1, _, _), (2, _, _), (3, _, _), (6, _, _)] (Za rfl (Za rfl (Za rfl (Za rfl (Zd _))))) ?_
  refine Zh (hK1 _ _ ?_)
  refine Zg fun K2 hK2 => ?_
  refine Zg fun K3 hK3 => ?_
  refine Zf [3, 0, 3, 3, 3] ?_
  refine Zc rfl (fun _ => Zm Zv (Zb rfl)) ?_
  refine Ya rfl (Zt Zq (Zb rfl) (fun _ => B3.at_ rfl)) ?_
  refine Zc rfl (fun _ => Xx Zo (Zb rfl)) ?_
  refine Zc rfl (fun _ => Zi (Zb rfl)) ?_
  refine Zc rfl (fun _ => Vh (Zb rfl) (Zb rfl)) ?_
  refine Zj [(1, _, _), (2, _, _), (3, _, _), (6, _, _), (13, _, _)] (Za rfl (Za rfl (Za rfl (Za rfl (Za rfl (Zd _)))))) ?_
  refine Zh (hK3 _ _ ?_)
  refine Zz (Zb rfl) (fun h1 => ?_) (fun h1 => ?_)
  · exfalso; simp only [decide_eq_true_eq] at h1; omega
    done
  (try simp only [bsimp] at h1)
  refine Yq (hK2 _ _ ?_)
  refine Yi [(1, _, _), (2, _, _), (3, _, _), (6, _, _)] (Za rfl (Za rfl (Za rfl (Za rfl (Zd _))))) ?_
  refine Zg fun K4 hK4 => ?_
  refine Zg fun K5 hK5 => ?_
  refine Zf [3, 0, 3, 3, 3, 3] ?_
  refine Zc rfl (fun _ => Zm Zv (Zb rfl)) ?_
  refine Ya rfl (Zt Zq (Zb rfl) (fun _ => B3.at_ rfl)) ?_
  refine Zc rfl (fun _ => Zi (Zb rfl)) ?_
  refine Zc rfl (fun _ => rd_sl_from0 Zo (Zb rfl) (Zb rfl)) ?_
  refine Zc rfl (fun _ => Xx Zo (Zb rfl)) ?_
  refine Zc rfl (fun _ => Zi Zl) ?_
  refine Zj [(2, _, _), (6, _, _), (17, _, _), (18, _, _), (19, _, _)] (Za rfl (Za rfl (Za rfl (Za rfl (Za rfl (Zd _)))))) ?_
  refine Zh (hK5 _ _ ?_)
  refine Yp ?_
  refine Wv (fun (i : Nat) u1 => (i ≤ t.kids.length ∧ ∀ j, (h : j < t.kids.length) → j < i → q t.kids[j].kind = true) ∧ G w3 u1) [(2, True, _), (17, True, _), (18, True, _)] (fun (i : Nat) => [(19, True, .int .i64 i)]) (fun (i : Nat) => t.kids.length - i) (0) ⟨⟨Nat.zero_le _, fun j _ hj => absurd hj (Nat.not_lt_zero j)⟩, G.refl _⟩ (Za rfl (Za rfl (Za rfl (Za rfl (Zd _))))) ?_
  rintro i u1 ⟨hI1, gl1⟩
  have g := g.trans gl1
  replace B3 := B3.grow (gl1)
  refine Zg fun K6 hK6 => ?_
  refine Zf [3] ?_
  refine Zc rfl (fun _ => Vh (Zb rfl) (Zb rfl)) ?_
  refine Zh (hK6 _ _ ?_)
  refine Yi [(2, _, _), (17, _, _), (18, _, _), (19, _, _), (20, _, _)] (Za rfl (Za rfl (Za rfl (Za rfl (Za rfl (Zd _)))))) ?_
  refine Zg fun K7 hK7 => ?_
  refine Zz (Zb rfl) (fun h2 => ?_) (fun h2 => ?_)
  · replace h2 : i < t.kids.length := by simp only [decide_eq_true_eq] at h2; omega
    obtain ⟨b2, o2, rfl, hD, xs, hR2, hX⟩ := hks (by omega)
    obtain ⟨p2, c2, hcell, _⟩ := Yna hR2 hX h2
    refine Yq (hK7 _ _ ?_)
    refine Yi [(2, _, _), (17, _, _), (18, _, _), (19, _, _)] (Za rfl (Za rfl (Za rfl (Za rfl (Zd _))))) ?_
    refine Zg fun K8 hK8 => ?_
    refine Yp ?_
    refine Zg fun K9 hK9 => ?_
    refine Zf [3, 0, 1, 2] ?_
    refine Zc rfl (fun _ => Uc Zo (Zb rfl) (Zb rfl) (fun _ => by omega)) ?_
    refine Ya rfl (Yb Zr (Zb rfl) rfl (fun _ => hcell.grow g)) ?_
    refine Xr rfl Yo rfl ?_
    intro b8 w8 N8
    have x8_3 := N8.ne B3
    have l8 := N8.ge g
    try have l8_gl1 := N8.ge gl1
    have g := g.trans (N8.g)
    try have gl1 := gl1.trans (N8.g)
    replace B3 := B3.grow (N8.g)
    have B8 := N8.blk
    refine Yu rfl Xi (Zb rfl) (Zb rfl) rfl rfl B8 rfl rfl ?_
    intro wS1 hgS1 hzS1
    clear B8
    intro B8
    replace B3 := B3.keep hgS1 (by intro h; injection h with h; first | exact x8_3 h.symm | exact x3_8 h | omega)
    have g := Xo g hgS1 (by intro k hk; injection hk with hk; omega)
    first | replace gl1 := Xo gl1 hgS1 (by intro k hk; injection hk with hk; omega) | clear gl1 | skip
    refine Zj [(2, _, _), (8, _, _), (17, _, _), (18, _, _), (19, _, _)] (Za rfl (Za rfl (Za rfl (Za rfl (Za rfl (Zd _)))))) ?_
    refine Zh (hK9 _ _ ?_)
    refine Zg fun K10 hK10 => ?_
    refine Zf [3, 3, 0, 1, 3] ?_
    refine Zc rfl (fun _ => Zi (Zb rfl)) ?_
    refine Zc rfl (fun _ => Zm Ys (Zb rfl)) ?_
    refine Ya rfl (Zt Yy (Zb rfl) (fun _ => B8.at_ rfl)) ?_
    refine Xe rfl (Zu hgo (Zb rfl) (Zk (Zb rfl) (Zn)) rfl) (hf _ _ g) (fun w26 g26 => ?_)
    have g := g.trans (g26)
    try have gl1 := gl1.trans (g26)
    replace B3 := B3.grow (g26)
    replace B8 := B8.grow (g26)
    refine Zc rfl (fun _ => Ub (Zb rfl)) ?_
    refine Zj [(2, _, _), (17, _, _), (18, _, _), (19, _, _), (27, _, _)] (Za rfl (Za rfl (Za rfl (Za rfl (Za rfl (Zd _)))))) ?_
    refine Zh (hK10 _ _ ?_)
    refine Zz (Zb rfl) (fun h3 => ?_) (fun h3 => ?_)
    · (try simp only [bsimp] at h3)
      refine Zg fun K11 hK11 => ?_
      refine Zf [3] ?_
      refine Zc rfl (fun _ => Ze Zl) ?_
      refine Zj [(2, _, _), (6, _, _), (17, _, _), (18, _, _), (19, _, _)] (Za rfl (Za rfl (Za rfl (Za rfl (Za rfl (Zd _)))))) ?_
      refine Zh (hK11 _ _ ?_)
      refine Yf (Yj rfl rfl ?_)
      refine ⟨congrArg Value.bool ?_, g⟩
      rw [eq_comm, everyB, List.all_eq_false]
      exact ⟨_, List.getElem_mem h2, by simpa using h3⟩
    (try simp only [bsimp] at h3)
    refine Yq (hK8 _ _ ?_)
    refine Yi [(2, _, _), (17, _, _), (18, _, _), (19, _, _)] (Za rfl (Za rfl (Za rfl (Za rfl (Zd _))))) ?_
    refine Zf [3, 3] ?_
    refine Zc rfl (fun _ => Xq (Zb rfl) Zl (fun _ => by omega)) ?_
    refine Zc rfl (fun _ => Zi (Zb rfl)) ?_
    refine Zj [(19, _, _), (2, _, _), (17, _, _), (18, _, _)] (Za rfl (Za rfl (Za rfl (Za rfl (Zd _))))) ?_
    refine Zh (fun a ha => ?_)
    refine ⟨i + 1, ha, ⟨⟨h2, fun j h hj => ?_⟩, gl1⟩, by omega⟩
    by_cases e : j = i
    · subst e; simpa using h3
    · exact hI1.2 j h (by omega)
  (try simp only [bsimp] at h2)
  refine Wa rfl (hK4 _ _ ?_)
  refine Yi [] (Zd _) ?_
  refine Zg fun K12 hK12 => ?_
  refine Zf [3] ?_
  refine Zc rfl (fun _ => Ze Zl) ?_
  refine Zh (hK12 _ _ ?_)
  refine Yf (Yj rfl rfl ?_)
  refine ⟨congrArg Value.bool ?_, g⟩
  rw [eq_comm, everyB, List.all_eq_true]
  intro x hx
  obtain ⟨j, hj, rfl⟩ := List.getElem_of_mem hx
  exact hI1.2 j hj (by simp only [decide_eq_false_iff_not] at h2; omega)
def commB (t : Nd) : Bool := bif anyK [9, 16] t.kind then true
  else bif anyK [13, 11] t.kind then decide (((t.kids.length : Int) - 1) = 0) && decide ((kidAt t 0).kind = 33)
  else bif decide (t.kind = 12) then decide (((t.kids.length : Int) - 1) = 1) && decide ((kidAt t 1).kind = 33) else false
theorem Xw {w : World} {D : Nat → Prop} {t : Nd} {p : Option Addr} {c : Nat} (hk : Kd w D t.kids (.slice p t.kids.length c)) {i : Nat} (h : i < t.kids.length) : p = some ⟨pb p, po p, none⟩ ∧ ∃ p' c', RowAt w (pb p) (po p + i * 9) (ndCells (kidAt t i) (.slice p' (kidAt t i).kids.length c')) ∧ Kd w D (kidAt t i).kids (.slice p' (kidAt t i).kids.length c') := by
  obtain ⟨p', c', hpe, _, hks⟩ := hk
  injection hpe with hpe _ hce
  subst hpe hce
  obtain ⟨b2, o2, rfl, hD, xs, hR2, hX⟩ := hks (by omega)
  refine ⟨rfl, ?_⟩
  rw [Xu h]
  exact Yna hR2 hX h
theorem comm_ok (t : Nd) (p : Option Addr) (c : Nat) (D : Nat → Prop) (w : World) (hk : Kd w D t.kids (.slice p t.kids.length c)) (hc : t.kids.length ≤ 1000000) : Ret PP Vpa #[ndV t (.slice p t.kids.length c)] w fun v w' => v = .bool (commB t) ∧ G w w' := by
  have g := G.refl w
  refine Ym (m := 38) Wha rfl rfl [(0, True, _)] (Za rfl (Zd _)) ?_
  refine Zg fun K1 hK1 => ?_
  refine Zf [1, 3] ?_
  refine Wd rfl (Zb rfl) rfl ?_
  intro b1 w1 N1
  have l1 := N1.ge g
  have g := g.trans (N1.g)
  have B1 := N1.blk
  refine Zc rfl (fun _ => Ze Zl) ?_
  refine Zj [(1, _, _), (2, _, _)] (Za rfl (Za rfl (Zd _))) ?_
  refine Zh (hK1 _ _ ?_)
  refine Zg fun K2 hK2 => ?_
  refine Zf [3, 0, 3, 3, 3] ?_
  refine Zc rfl (fun _ => Zm Zv (Zb rfl)) ?_
  refine Ya rfl (Zt Zq (Zb rfl) (fun _ => B1.at_ rfl)) ?_
  refine Zc rfl (fun _ => Xx Zo (Zb rfl)) ?_
  refine Zc rfl (fun _ => rd_sub (Zb rfl) Zl (fun _ => by omega)) ?_
  refine Zc rfl (fun _ => Ze (Zb rfl)) ?_
  refine Zj [(1, _, _), (2, _, _), (3, _, _)] (Za rfl (Za rfl (Za rfl (Zd _)))) ?_
  refine Zh (hK2 _ _ ?_)
  refine Zg fun K3 hK3 => ?_
  refine Zg fun K4 hK4 => ?_
  refine Zf [3, 0] ?_
  refine Zc rfl (fun _ => Zm Ys (Zb rfl)) ?_
  refine Ya rfl (Zt Yy (Zb rfl) (fun _ => B1.at_ rfl)) ?_
  refine Zj [(1, _, _), (2, _, _), (3, _, _), (9, _, _)] (Za rfl (Za rfl (Za rfl (Za rfl (Zd _))))) ?_
  refine Zh (hK4 _ _ ?_)
  refine Yp ?_
  refine Zg fun K5 hK5 => ?_
  refine Zg fun K6 hK6 => ?_
  refine Zf [3, 3] ?_
  refine Zc rfl (fun _ => Yg (Zb rfl) Zl) ?_
  refine Zc rfl (fun _ => Ze (Zb rfl)) ?_
  refine Zj [(1, _, _), (2, _, _), (3, _, _), (9, _, _), (10, _, _)] (Za rfl (Za rfl (Za rfl (Za rfl (Za rfl (Zd _)))))) ?_
  refine Zh (hK6 _ _ ?_)
  refine' Yk [(1, _, _), (2, _, _), (3, _, _), (9, _, _)] (Za rfl (Za rfl (Za rfl (Za rfl (Za rfl (Zd _)))))) rfl (fun hb1 => ?y1) (hK5 _ _ ?n1)
  case y1 =>
   refine Zf [3, 3] ?_
   refine Zc rfl (fun _ => Yg (Zb rfl) Zl) ?_
   refine Zc rfl (fun _ => Ze (Zb rfl)) ?_
   refine Zj [(10, _, _), (1, _, _), (2, _, _), (3, _, _), (9, _, _)] (Za rfl (Za rfl (Za rfl (Za rfl (Za rfl (Zd _)))))) ?_
   exact Zh (fun a ha => ⟨ha, rfl⟩)
  case n1 =>
   refine Zz (Zb rfl) (fun h2 => ?_) (fun h2 => ?_)
   · replace h2 : (anyK [9, 16] t.kind) = true := h2
     refine Zg fun K7 hK7 => ?_
     refine Zf [3] ?_
     refine Zc rfl (fun _ => Ze Zl) ?_
     refine Zj [(2, _, _)] (Za rfl (Zd _)) ?_
     refine Zh (hK7 _ _ ?_)
     refine Yf (Yj rfl rfl ?_)
     refine ⟨congrArg Value.bool ?_, g⟩
     unfold commB; simp only [h2, cond_true, cond_false] <;> rfl
   replace h2 : (anyK [9, 16] t.kind) = false := h2
   refine Zg fun K8 hK8 => ?_
   refine Zg fun K9 hK9 => ?_
   refine Zf [3, 3] ?_
   refine Zc rfl (fun _ => Yg (Zb rfl) Zl) ?_
   refine Zc rfl (fun _ => Ze (Zb rfl)) ?_
   refine Zj [(1, _, _), (2, _, _), (3, _, _), (9, _, _), (13, _, _)] (Za rfl (Za rfl (Za rfl (Za rfl (Za rfl (Zd _)))))) ?_
   refine Zh (hK9 _ _ ?_)
   refine' Yk [(1, _, _), (2, _, _), (3, _, _), (9, _, _)] (Za rfl (Za rfl (Za rfl (Za rfl (Za rfl (Zd _)))))) rfl (fun hb3 => ?y3) (hK8 _ _ ?n3)
   case y3 =>
    refine Zf [3, 3] ?_
    refine Zc rfl (fun _ => Yg (Zb rfl) Zl) ?_
    refine Zc rfl (fun _ => Ze (Zb rfl)) ?_
    refine Zj [(13, _, _), (1, _, _), (2, _, _), (3, _, _), (9, _, _)] (Za rfl (Za rfl (Za rfl (Za rfl (Za rfl (Zd _)))))) ?_
    exact Zh (fun a ha => ⟨ha, rfl⟩)
   case n3 =>
    refine Zz (Zb rfl) (fun h4 => ?_) (fun h4 => ?_)
    · replace h4 : (anyK [13, 11] t.kind) = true := h4
      refine Zg fun K10 hK10 => ?_
      refine Zf [3, 3, 3, 3, 0, 3, 3, 0, 3, 3, 3] ?_
      refine Zc rfl (fun _ => Zi (Zb rfl)) ?_
      refine Zc rfl (fun _ => Yg (Zb rfl) Zl) ?_
      refine Zc rfl (fun _ => Zi (Zb rfl)) ?_
      refine Zs rfl rfl rfl (fun _ => Zm Zv (Zb rfl)) ?_
      refine Yr rfl rfl rfl (Zt Zq (Zy rfl id) (fun _ => B1.at_ rfl)) ?_
      refine Zs rfl rfl rfl (fun _ => Xc Zo (Zy rfl id) Zl (fun hc => by have := of_decide_eq_true hc.2; omega) (fun hc => (Xw hk (i := 0) (by have := of_decide_eq_true hc.2; omega)).1)) ?_
      refine Zs rfl rfl rfl (fun _ => Zm Ys (Zy rfl id)) ?_
      refine Yr rfl rfl rfl (Zt Yy (Zy rfl id) (fun hc => by
      obtain ⟨_, p', c', hcell, _⟩ := Xw hk (i := 0) (by have := of_decide_eq_true hc.2; omega)
      exact (hcell.grow g) 0 _ rfl)) ?_
      refine Zs rfl rfl rfl (fun _ => Yg (Zy rfl id) Zl) ?_
      refine Zc rfl (fun _ => Ye (Zb rfl) (Zy rfl id)) ?_
      refine Zc rfl (fun _ => Ze (Zb rfl)) ?_
      refine Zj [(2, _, _)] (Za rfl (Zd _)) ?_
      refine Zh (hK10 _ _ ?_)
      refine Yf (Yj rfl rfl ?_)
      refine ⟨congrArg Value.bool ?_, g⟩
      unfold commB; simp only [h2, h4, cond_true, cond_false] <;> rfl
    replace h4 : (anyK [13, 11] t.kind) = false := h4
    refine Zg fun K11 hK11 => ?_
    refine Zf [3, 3] ?_
    refine Zc rfl (fun _ => Yg (Zb rfl) Zl) ?_
    refine Zc rfl (fun _ => Ze (Zb rfl)) ?_
    refine Zj [(1, _, _), (2, _, _), (3, _, _), (26, _, _)] (Za rfl (Za rfl (Za rfl (Za rfl (Zd _))))) ?_
    refine Zh (hK11 _ _ ?_)
    refine Zz (Zb rfl) (fun h5 => ?_) (fun h5 => ?_)
    · (try simp only [bsimp] at h5)
      refine Zg fun K12 hK12 => ?_
      refine Zf [3, 3, 3, 3, 0, 3, 3, 0, 3, 3, 3] ?_
      refine Zc rfl (fun _ => Zi (Zb rfl)) ?_
      refine Zc rfl (fun _ => Yg (Zb rfl) Zl) ?_
      refine Zc rfl (fun _ => Zi (Zb rfl)) ?_
      refine Zs rfl rfl rfl (fun _ => Zm Zv (Zb rfl)) ?_
      refine Yr rfl rfl rfl (Zt Zq (Zy rfl id) (fun _ => B1.at_ rfl)) ?_
      refine Zs rfl rfl rfl (fun _ => Xc Zo (Zy rfl id) Zl (fun hc => by have := of_decide_eq_true hc.2; omega) (fun hc => (Xw hk (i := 1) (by have := of_decide_eq_true hc.2; omega)).1)) ?_
      refine Zs rfl rfl rfl (fun _ => Zm Ys (Zy rfl id)) ?_
      refine Yr rfl rfl rfl (Zt Yy (Zy rfl id) (fun hc => by
      obtain ⟨_, p', c', hcell, _⟩ := Xw hk (i := 1) (by have := of_decide_eq_true hc.2; omega)
      exact (hcell.grow g) 0 _ rfl)) ?_
      refine Zs rfl rfl rfl (fun _ => Yg (Zy rfl id) Zl) ?_
      refine Zc rfl (fun _ => Ye (Zb rfl) (Zy rfl id)) ?_
      refine Zc rfl (fun _ => Ze (Zb rfl)) ?_
      refine Zj [(2, _, _)] (Za rfl (Zd _)) ?_
      refine Zh (hK12 _ _ ?_)
      refine Yf (Yj rfl rfl ?_)
      refine ⟨congrArg Value.bool ?_, g⟩
      unfold commB; simp only [h2, h4, h5, cond_true, cond_false] <;> rfl
    (try simp only [bsimp] at h5)
    refine Yq (hK3 _ _ ?_)
    refine Yi [(2, _, _)] (Za rfl (Zd _)) ?_
    refine Zg fun K13 hK13 => ?_
    refine Zf [3] ?_
    refine Zc rfl (fun _ => Ze Zl) ?_
    refine Zh (hK13 _ _ ?_)
    refine Yf (Yj rfl rfl ?_)
    refine ⟨congrArg Value.bool ?_, g⟩
    unfold commB; simp only [h2, h4, h5, cond_true, cond_false] <;> rfl
def textB' (t : Nd) : Bool := bif anyK [2, 3, 4, 6, 11, 28, 27, 34, 8] t.kind then nameB t.text
  else bif decide (t.kind = 31) then decide (t.text = [45]) || decide (t.text = [33])
  else bif decide (t.kind = 32) then anyS binOps t.text
  else bif decide (t.kind = 7) then typeNameB t.text
  else decide (t.text = [])
theorem stext_ok (t : Nd) (p : Option Addr) (c : Nat) (w : World) (hL : Laid w) (hb3 : 6 ≤ w.heap.size) : Ret PP Zec #[ndV t (.slice p t.kids.length c)] w fun v w' => v = .bool (textB' t) ∧ G w w' := by
  have g := G.refl w
  refine Ym (m := 64) Wwb rfl rfl [(0, True, _)] (Za rfl (Zd _)) ?_
  refine Zg fun K1 hK1 => ?_
  refine Zf [1, 3] ?_
  refine Wd rfl (Zb rfl) rfl ?_
  intro b1 w1 N1
  have l1 := N1.ge g
  have g := g.trans (N1.g)
  have B1 := N1.blk
  refine Zc rfl (fun _ => Ze Zl) ?_
  refine Zj [(1, _, _), (2, _, _)] (Za rfl (Za rfl (Zd _))) ?_
  refine Zh (hK1 _ _ ?_)
  refine Zg fun K2 hK2 => ?_
  refine Zg fun K3 hK3 => ?_
  refine Zf [3, 0] ?_
  refine Zc rfl (fun _ => Zm Ys (Zb rfl)) ?_
  refine Ya rfl (Zt Yy (Zb rfl) (fun _ => B1.at_ rfl)) ?_
  refine Zj [(1, _, _), (2, _, _), (4, _, _)] (Za rfl (Za rfl (Za rfl (Zd _)))) ?_
  refine Zh (hK3 _ _ ?_)
  refine Yp ?_
  refine Zg fun K4 hK4 => ?_
  refine Zg fun K5 hK5 => ?_
  refine Zf [3, 3] ?_
  refine Zc rfl (fun _ => Yg (Zb rfl) Zl) ?_
  refine Zc rfl (fun _ => Ze (Zb rfl)) ?_
  refine Zj [(1, _, _), (2, _, _), (4, _, _), (5, _, _)] (Za rfl (Za rfl (Za rfl (Za rfl (Zd _))))) ?_
  refine Zh (hK5 _ _ ?_)
  refine' Yk [(1, _, _), (2, _, _), (4, _, _)] (Za rfl (Za rfl (Za rfl (Za rfl (Zd _))))) rfl (fun hb1 => ?y1) (hK4 _ _ ?n1)
  case y1 =>
   refine Zg fun K6 hK6 => ?_
   refine Zf [3, 3] ?_
   refine Zc rfl (fun _ => Yg (Zb rfl) Zl) ?_
   refine Zc rfl (fun _ => Ze (Zb rfl)) ?_
   refine Zj [(1, _, _), (2, _, _), (4, _, _), (5, _, _)] (Za rfl (Za rfl (Za rfl (Za rfl (Zd _))))) ?_
   refine Zh (hK6 _ _ ?_)
   refine' Yk [(1, _, _), (2, _, _), (4, _, _)] (Za rfl (Za rfl (Za rfl (Za rfl (Zd _))))) rfl (fun hb2 => ?y2) (fun a ha => ⟨ha, rfl⟩)
   case y2 =>
    refine Zg fun K7 hK7 => ?_
    refine Zf [3, 3] ?_
    refine Zc rfl (fun _ => Yg (Zb rfl) Zl) ?_
    refine Zc rfl (fun _ => Ze (Zb rfl)) ?_
    refine Zj [(1, _, _), (2, _, _), (4, _, _), (5, _, _)] (Za rfl (Za rfl (Za rfl (Za rfl (Zd _))))) ?_
    refine Zh (hK7 _ _ ?_)
    refine' Yk [(1, _, _), (2, _, _), (4, _, _)] (Za rfl (Za rfl (Za rfl (Za rfl (Zd _))))) rfl (fun hb3 => ?y3) (fun a ha => ⟨ha, rfl⟩)
    case y3 =>
     refine Zg fun K8 hK8 => ?_
     refine Zf [3, 3] ?_
     refine Zc rfl (fun _ => Yg (Zb rfl) Zl) ?_
     refine Zc rfl (fun _ => Ze (Zb rfl)) ?_
     refine Zj [(1, _, _), (2, _, _), (4, _, _), (5, _, _)] (Za rfl (Za rfl (Za rfl (Za rfl (Zd _))))) ?_
     refine Zh (hK8 _ _ ?_)
     refine' Yk [(1, _, _), (2, _, _), (4, _, _)] (Za rfl (Za rfl (Za rfl (Za rfl (Zd _))))) rfl (fun hb4 => ?y4) (fun a ha => ⟨ha, rfl⟩)
     case y4 =>
      refine Zg fun K9 hK9 => ?_
      refine Zf [3, 3] ?_
      refine Zc rfl (fun _ => Yg (Zb rfl) Zl) ?_
      refine Zc rfl (fun _ => Ze (Zb rfl)) ?_
      refine Zj [(1, _, _), (2, _, _), (4, _, _), (5, _, _)] (Za rfl (Za rfl (Za rfl (Za rfl (Zd _))))) ?_
      refine Zh (hK9 _ _ ?_)
      refine' Yk [(1, _, _), (2, _, _), (4, _, _)] (Za rfl (Za rfl (Za rfl (Za rfl (Zd _))))) rfl (fun hb5 => ?y5) (fun a ha => ⟨ha, rfl⟩)
      case y5 =>
       refine Zg fun K10 hK10 => ?_
       refine Zf [3, 3] ?_
       refine Zc rfl (fun _ => Yg (Zb rfl) Zl) ?_
       refine Zc rfl (fun _ => Ze (Zb rfl)) ?_
       refine Zj [(1, _, _), (2, _, _), (4, _, _), (5, _, _)] (Za rfl (Za rfl (Za rfl (Za rfl (Zd _))))) ?_
       refine Zh (hK10 _ _ ?_)
       refine' Yk [(1, _, _), (2, _, _), (4, _, _)] (Za rfl (Za rfl (Za rfl (Za rfl (Zd _))))) rfl (fun hb6 => ?y6) (fun a ha => ⟨ha, rfl⟩)
       case y6 =>
        refine Zg fun K11 hK11 => ?_
        refine Zf [3, 3] ?_
        refine Zc rfl (fun _ => Yg (Zb rfl) Zl) ?_
        refine Zc rfl (fun _ => Ze (Zb rfl)) ?_
        refine Zj [(1, _, _), (2, _, _), (4, _, _), (5, _, _)] (Za rfl (Za rfl (Za rfl (Za rfl (Zd _))))) ?_
        refine Zh (hK11 _ _ ?_)
        refine' Yk [(1, _, _), (2, _, _), (4, _, _)] (Za rfl (Za rfl (Za rfl (Za rfl (Zd _))))) rfl (fun hb7 => ?y7) (fun a ha => ⟨ha, rfl⟩)
        case y7 =>
         refine Zg fun K12 hK12 => ?_
         refine Zf [3, 3] ?_
         refine Zc rfl (fun _ => Yg (Zb rfl) Zl) ?_
         refine Zc rfl (fun _ => Ze (Zb rfl)) ?_
         refine Zj [(1, _, _), (2, _, _), (4, _, _), (5, _, _)] (Za rfl (Za rfl (Za rfl (Za rfl (Zd _))))) ?_
         refine Zh (hK12 _ _ ?_)
         refine' Yk [(1, _, _), (2, _, _), (4, _, _)] (Za rfl (Za rfl (Za rfl (Za rfl (Zd _))))) rfl (fun hb8 => ?y8) (fun a ha => ⟨ha, rfl⟩)
         case y8 =>
          refine Zf [3, 3] ?_
          refine Zc rfl (fun _ => Yg (Zb rfl) Zl) ?_
          refine Zc rfl (fun _ => Ze (Zb rfl)) ?_
          refine Zj [(5, _, _), (1, _, _), (2, _, _), (4, _, _)] (Za rfl (Za rfl (Za rfl (Za rfl (Zd _))))) ?_
          exact Zh (fun a ha => ⟨ha, rfl⟩)
  case n1 =>
   refine Zz (Zb rfl) (fun h9 => ?_) (fun h9 => ?_)
   · replace h9 : (anyK [2, 3, 4, 6, 11, 28, 27, 34, 8] t.kind) = true := h9
     refine Zg fun K13 hK13 => ?_
     refine Zf [3, 0, 1, 3] ?_
     refine Zc rfl (fun _ => Zm Yw (Zb rfl)) ?_
     refine Ya rfl (Zt Yt (Zb rfl) (fun _ => B1.at_ rfl)) ?_
     refine Xe rfl (Zu Znc Yl (Zk (Zb rfl) (Zn)) rfl) (synname_ok _ _ (hL.grow g) (by have := g.size; omega)) (fun w17 g17 => ?_)
     have g := g.trans (g17)
     replace B1 := B1.grow (g17)
     refine Zc rfl (fun _ => Ze (Zb rfl)) ?_
     refine Zj [(1, _, _), (2, _, _)] (Za rfl (Za rfl (Zd _))) ?_
     refine Zh (hK13 _ _ ?_)
     refine Yf (Yj rfl rfl ?_)
     refine ⟨congrArg Value.bool ?_, g⟩
     unfold textB'; simp only [binOps, typeNameB, Ul, anyS, h9, cond_true, cond_false] <;> rfl
   replace h9 : (anyK [2, 3, 4, 6, 11, 28, 27, 34, 8] t.kind) = false := h9
   refine Zg fun K14 hK14 => ?_
   refine Zf [3, 3] ?_
   refine Zc rfl (fun _ => Yg (Zb rfl) Zl) ?_
   refine Zc rfl (fun _ => Ze (Zb rfl)) ?_
   refine Zj [(1, _, _), (2, _, _), (4, _, _), (18, _, _)] (Za rfl (Za rfl (Za rfl (Za rfl (Zd _))))) ?_
   refine Zh (hK14 _ _ ?_)
   refine Zz (Zb rfl) (fun h10 => ?_) (fun h10 => ?_)
   · (try simp only [bsimp] at h10)
     refine Zg fun K15 hK15 => ?_
     refine Zf [3, 0, 3, 3, 3, 0, 3, 3, 3] ?_
     refine Zc rfl (fun _ => Zm Yw (Zb rfl)) ?_
     refine Ya rfl (Zt Yt (Zb rfl) (fun _ => B1.at_ rfl)) ?_
     refine Zc rfl (fun _ => Yh (Zb rfl) Zl) ?_
     refine Zc rfl (fun _ => Zi (Zb rfl)) ?_
     refine Zs rfl rfl rfl (fun _ => Zm Yw (Zb rfl)) ?_
     refine Yr rfl rfl rfl (Zt Yt (Zy rfl id) (fun _ => B1.at_ rfl)) ?_
     refine Zs rfl rfl rfl (fun _ => Yh (Zy rfl id) Zl) ?_
     refine Zc rfl (fun _ => Yz (Zb rfl) (Zy rfl id)) ?_
     refine Zc rfl (fun _ => Ze (Zb rfl)) ?_
     refine Zj [(1, _, _), (2, _, _)] (Za rfl (Za rfl (Zd _))) ?_
     refine Zh (hK15 _ _ ?_)
     refine Yf (Yj rfl rfl ?_)
     refine ⟨congrArg Value.bool ?_, g⟩
     unfold textB'; simp only [binOps, typeNameB, Ul, anyS, h9, h10, cond_true, cond_false] <;> rfl
   (try simp only [bsimp] at h10)
   refine Zg fun K16 hK16 => ?_
   refine Zf [3, 3] ?_
   refine Zc rfl (fun _ => Yg (Zb rfl) Zl) ?_
   refine Zc rfl (fun _ => Ze (Zb rfl)) ?_
   refine Zj [(1, _, _), (2, _, _), (4, _, _), (28, _, _)] (Za rfl (Za rfl (Za rfl (Za rfl (Zd _))))) ?_
   refine Zh (hK16 _ _ ?_)
   refine Zz (Zb rfl) (fun h11 => ?_) (fun h11 => ?_)
   · (try simp only [bsimp] at h11)
     refine Zg fun K17 hK17 => ?_
     refine Zg fun K18 hK18 => ?_
     refine Zf [3, 0] ?_
     refine Zc rfl (fun _ => Zm Yw (Zb rfl)) ?_
     refine Ya rfl (Zt Yt (Zb rfl) (fun _ => B1.at_ rfl)) ?_
     refine Zj [(1, _, _), (2, _, _), (31, _, _)] (Za rfl (Za rfl (Za rfl (Zd _)))) ?_
     refine Zh (hK18 _ _ ?_)
     refine Yp ?_
     refine Zg fun K19 hK19 => ?_
     refine Zg fun K20 hK20 => ?_
     refine Zf [3, 3] ?_
     refine Zc rfl (fun _ => Yh (Zb rfl) Zl) ?_
     refine Zc rfl (fun _ => Ze (Zb rfl)) ?_
     refine Zj [(1, _, _), (2, _, _), (31, _, _), (32, _, _)] (Za rfl (Za rfl (Za rfl (Za rfl (Zd _))))) ?_
     refine Zh (hK20 _ _ ?_)
     refine' Yk [(1, _, _), (2, _, _)] (Za rfl (Za rfl (Za rfl (Zd _)))) rfl (fun hb12 => ?y12) (hK19 _ _ ?n12)
     case y12 =>
      refine Zg fun K21 hK21 => ?_
      refine Zf [3, 3] ?_
      refine Zc rfl (fun _ => Yh (Zb rfl) Zl) ?_
      refine Zc rfl (fun _ => Ze (Zb rfl)) ?_
      refine Zj [(1, _, _), (2, _, _), (31, _, _), (32, _, _)] (Za rfl (Za rfl (Za rfl (Za rfl (Zd _))))) ?_
      refine Zh (hK21 _ _ ?_)
      refine' Yk [(1, _, _), (2, _, _)] (Za rfl (Za rfl (Za rfl (Zd _)))) rfl (fun hb13 => ?y13) (fun a ha => ⟨ha, rfl⟩)
      case y13 =>
       refine Zg fun K22 hK22 => ?_
       refine Zf [3, 3] ?_
       refine Zc rfl (fun _ => Yh (Zb rfl) Zl) ?_
       refine Zc rfl (fun _ => Ze (Zb rfl)) ?_
       refine Zj [(1, _, _), (2, _, _), (31, _, _), (32, _, _)] (Za rfl (Za rfl (Za rfl (Za rfl (Zd _))))) ?_
       refine Zh (hK22 _ _ ?_)
       refine' Yk [(1, _, _), (2, _, _)] (Za rfl (Za rfl (Za rfl (Zd _)))) rfl (fun hb14 => ?y14) (fun a ha => ⟨ha, rfl⟩)
       case y14 =>
        refine Zg fun K23 hK23 => ?_
        refine Zf [3, 3] ?_
        refine Zc rfl (fun _ => Yh (Zb rfl) Zl) ?_
        refine Zc rfl (fun _ => Ze (Zb rfl)) ?_
        refine Zj [(1, _, _), (2, _, _), (31, _, _), (32, _, _)] (Za rfl (Za rfl (Za rfl (Za rfl (Zd _))))) ?_
        refine Zh (hK23 _ _ ?_)
        refine' Yk [(1, _, _), (2, _, _)] (Za rfl (Za rfl (Za rfl (Zd _)))) rfl (fun hb15 => ?y15) (fun a ha => ⟨ha, rfl⟩)
        case y15 =>
         refine Zg fun K24 hK24 => ?_
         refine Zf [3, 3] ?_
         refine Zc rfl (fun _ => Yh (Zb rfl) Zl) ?_
         refine Zc rfl (fun _ => Ze (Zb rfl)) ?_
         refine Zj [(1, _, _), (2, _, _), (31, _, _), (32, _, _)] (Za rfl (Za rfl (Za rfl (Za rfl (Zd _))))) ?_
         refine Zh (hK24 _ _ ?_)
         refine' Yk [(1, _, _), (2, _, _)] (Za rfl (Za rfl (Za rfl (Zd _)))) rfl (fun hb16 => ?y16) (fun a ha => ⟨ha, rfl⟩)
         case y16 =>
          refine Zg fun K25 hK25 => ?_
          refine Zf [3, 3] ?_
          refine Zc rfl (fun _ => Yh (Zb rfl) Zl) ?_
          refine Zc rfl (fun _ => Ze (Zb rfl)) ?_
          refine Zj [(1, _, _), (2, _, _), (31, _, _), (32, _, _)] (Za rfl (Za rfl (Za rfl (Za rfl (Zd _))))) ?_
          refine Zh (hK25 _ _ ?_)
          refine' Yk [(1, _, _), (2, _, _)] (Za rfl (Za rfl (Za rfl (Zd _)))) rfl (fun hb17 => ?y17) (fun a ha => ⟨ha, rfl⟩)
          case y17 =>
           refine Zg fun K26 hK26 => ?_
           refine Zf [3, 3] ?_
           refine Zc rfl (fun _ => Yh (Zb rfl) Zl) ?_
           refine Zc rfl (fun _ => Ze (Zb rfl)) ?_
           refine Zj [(1, _, _), (2, _, _), (31, _, _), (32, _, _)] (Za rfl (Za rfl (Za rfl (Za rfl (Zd _))))) ?_
           refine Zh (hK26 _ _ ?_)
           refine' Yk [(1, _, _), (2, _, _)] (Za rfl (Za rfl (Za rfl (Zd _)))) rfl (fun hb18 => ?y18) (fun a ha => ⟨ha, rfl⟩)
           case y18 =>
            refine Zg fun K27 hK27 => ?_
            refine Zf [3, 3] ?_
            refine Zc rfl (fun _ => Yh (Zb rfl) Zl) ?_
            refine Zc rfl (fun _ => Ze (Zb rfl)) ?_
            refine Zj [(1, _, _), (2, _, _), (31, _, _), (32, _, _)] (Za rfl (Za rfl (Za rfl (Za rfl (Zd _))))) ?_
            refine Zh (hK27 _ _ ?_)
            refine' Yk [(1, _, _), (2, _, _)] (Za rfl (Za rfl (Za rfl (Zd _)))) rfl (fun hb19 => ?y19) (fun a ha => ⟨ha, rfl⟩)
            case y19 =>
             refine Zg fun K28 hK28 => ?_
             refine Zf [3, 3] ?_
             refine Zc rfl (fun _ => Yh (Zb rfl) Zl) ?_
             refine Zc rfl (fun _ => Ze (Zb rfl)) ?_
             refine Zj [(1, _, _), (2, _, _), (31, _, _), (32, _, _)] (Za rfl (Za rfl (Za rfl (Za rfl (Zd _))))) ?_
             refine Zh (hK28 _ _ ?_)
             refine' Yk [(1, _, _), (2, _, _)] (Za rfl (Za rfl (Za rfl (Zd _)))) rfl (fun hb20 => ?y20) (fun a ha => ⟨ha, rfl⟩)
             case y20 =>
              refine Zg fun K29 hK29 => ?_
              refine Zf [3, 3] ?_
              refine Zc rfl (fun _ => Yh (Zb rfl) Zl) ?_
              refine Zc rfl (fun _ => Ze (Zb rfl)) ?_
              refine Zj [(1, _, _), (2, _, _), (31, _, _), (32, _, _)] (Za rfl (Za rfl (Za rfl (Za rfl (Zd _))))) ?_
              refine Zh (hK29 _ _ ?_)
              refine' Yk [(1, _, _), (2, _, _)] (Za rfl (Za rfl (Za rfl (Zd _)))) rfl (fun hb21 => ?y21) (fun a ha => ⟨ha, rfl⟩)
              case y21 =>
               refine Zg fun K30 hK30 => ?_
               refine Zf [3, 3] ?_
               refine Zc rfl (fun _ => Yh (Zb rfl) Zl) ?_
               refine Zc rfl (fun _ => Ze (Zb rfl)) ?_
               refine Zj [(1, _, _), (2, _, _), (31, _, _), (32, _, _)] (Za rfl (Za rfl (Za rfl (Za rfl (Zd _))))) ?_
               refine Zh (hK30 _ _ ?_)
               refine' Yk [(1, _, _), (2, _, _)] (Za rfl (Za rfl (Za rfl (Zd _)))) rfl (fun hb22 => ?y22) (fun a ha => ⟨ha, rfl⟩)
               case y22 =>
                refine Zg fun K31 hK31 => ?_
                refine Zf [3, 3] ?_
                refine Zc rfl (fun _ => Yh (Zb rfl) Zl) ?_
                refine Zc rfl (fun _ => Ze (Zb rfl)) ?_
                refine Zj [(1, _, _), (2, _, _), (31, _, _), (32, _, _)] (Za rfl (Za rfl (Za rfl (Za rfl (Zd _))))) ?_
                refine Zh (hK31 _ _ ?_)
                refine' Yk [(1, _, _), (2, _, _)] (Za rfl (Za rfl (Za rfl (Zd _)))) rfl (fun hb23 => ?y23) (fun a ha => ⟨ha, rfl⟩)
                case y23 =>
                 refine Zf [3, 3] ?_
                 refine Zc rfl (fun _ => Yh (Zb rfl) Zl) ?_
                 refine Zc rfl (fun _ => Ze (Zb rfl)) ?_
                 refine Zj [(32, _, _), (1, _, _), (2, _, _)] (Za rfl (Za rfl (Za rfl (Zd _)))) ?_
                 exact Zh (fun a ha => ⟨ha, rfl⟩)
     case n12 =>
      refine Zz (Zb rfl) (fun h24 => ?_) (fun h24 => ?_)
      · (try simp only [bsimp] at h24)
        refine Zg fun K32 hK32 => ?_
        refine Zf [3] ?_
        refine Zc rfl (fun _ => Ze Zl) ?_
        refine Zj [(1, _, _), (2, _, _)] (Za rfl (Za rfl (Zd _))) ?_
        refine Zh (hK32 _ _ ?_)
        refine Yf (Yj rfl rfl ?_)
        refine ⟨congrArg Value.bool ?_, g⟩
        unfold textB'; simp only [binOps, typeNameB, Ul, anyS, h9, h10, h11, h24, cond_true, cond_false] <;> rfl
      (try simp only [bsimp] at h24)
      refine Yq (hK17 _ _ ?_)
      refine Yi [(1, _, _), (2, _, _)] (Za rfl (Za rfl (Zd _))) ?_
      refine Zg fun K33 hK33 => ?_
      refine Zf [3] ?_
      refine Zc rfl (fun _ => Ze Zl) ?_
      refine Zh (hK33 _ _ ?_)
      refine Yf (Yj rfl rfl ?_)
      refine ⟨congrArg Value.bool ?_, g⟩
      unfold textB'; simp only [binOps, typeNameB, Ul, anyS, h9, h10, h11, h24, cond_true, cond_false] <;> rfl
   (try simp only [bsimp] at h11)
   refine Zg fun K34 hK34 => ?_
   refine Zf [3, 3] ?_
   refine Zc rfl (fun _ => Yg (Zb rfl) Zl) ?_
   refine Zc rfl (fun _ => Ze (Zb rfl)) ?_
   refine Zj [(1, _, _), (2, _, _), (46, _, _)] (Za rfl (Za rfl (Za rfl (Zd _)))) ?_
   refine Zh (hK34 _ _ ?_)
   refine Zz (Zb rfl) (fun h25 => ?_) (fun h25 => ?_)
   · (try simp only [bsimp] at h25)
     refine Zg fun K35 hK35 => ?_
     refine Zg fun K36 hK36 => ?_
     refine Zf [3, 0] ?_
     refine Zc rfl (fun _ => Zm Yw (Zb rfl)) ?_
     refine Ya rfl (Zt Yt (Zb rfl) (fun _ => B1.at_ rfl)) ?_
     refine Zj [(1, _, _), (2, _, _), (49, _, _)] (Za rfl (Za rfl (Za rfl (Zd _)))) ?_
     refine Zh (hK36 _ _ ?_)
     refine Yp ?_
     refine Zg fun K37 hK37 => ?_
     refine Zg fun K38 hK38 => ?_
     refine Zf [3, 3] ?_
     refine Zc rfl (fun _ => Yh (Zb rfl) Zl) ?_
     refine Zc rfl (fun _ => Ze (Zb rfl)) ?_
     refine Zj [(1, _, _), (2, _, _), (49, _, _), (50, _, _)] (Za rfl (Za rfl (Za rfl (Za rfl (Zd _))))) ?_
     refine Zh (hK38 _ _ ?_)
     refine' Yk [(1, _, _), (2, _, _)] (Za rfl (Za rfl (Za rfl (Zd _)))) rfl (fun hb26 => ?y26) (hK37 _ _ ?n26)
     case y26 =>
      refine Zg fun K39 hK39 => ?_
      refine Zf [3, 3] ?_
      refine Zc rfl (fun _ => Yh (Zb rfl) Zl) ?_
      refine Zc rfl (fun _ => Ze (Zb rfl)) ?_
      refine Zj [(1, _, _), (2, _, _), (49, _, _), (50, _, _)] (Za rfl (Za rfl (Za rfl (Za rfl (Zd _))))) ?_
      refine Zh (hK39 _ _ ?_)
      refine' Yk [(1, _, _), (2, _, _)] (Za rfl (Za rfl (Za rfl (Zd _)))) rfl (fun hb27 => ?y27) (fun a ha => ⟨ha, rfl⟩)
      case y27 =>
       refine Zg fun K40 hK40 => ?_
       refine Zf [3, 3] ?_
       refine Zc rfl (fun _ => Yh (Zb rfl) Zl) ?_
       refine Zc rfl (fun _ => Ze (Zb rfl)) ?_
       refine Zj [(1, _, _), (2, _, _), (49, _, _), (50, _, _)] (Za rfl (Za rfl (Za rfl (Za rfl (Zd _))))) ?_
       refine Zh (hK40 _ _ ?_)
       refine' Yk [(1, _, _), (2, _, _)] (Za rfl (Za rfl (Za rfl (Zd _)))) rfl (fun hb28 => ?y28) (fun a ha => ⟨ha, rfl⟩)
       case y28 =>
        refine Zg fun K41 hK41 => ?_
        refine Zf [3, 3] ?_
        refine Zc rfl (fun _ => Yh (Zb rfl) Zl) ?_
        refine Zc rfl (fun _ => Ze (Zb rfl)) ?_
        refine Zj [(1, _, _), (2, _, _), (49, _, _), (50, _, _)] (Za rfl (Za rfl (Za rfl (Za rfl (Zd _))))) ?_
        refine Zh (hK41 _ _ ?_)
        refine' Yk [(1, _, _), (2, _, _)] (Za rfl (Za rfl (Za rfl (Zd _)))) rfl (fun hb29 => ?y29) (fun a ha => ⟨ha, rfl⟩)
        case y29 =>
         refine Zg fun K42 hK42 => ?_
         refine Zf [3, 3] ?_
         refine Zc rfl (fun _ => Yh (Zb rfl) Zl) ?_
         refine Zc rfl (fun _ => Ze (Zb rfl)) ?_
         refine Zj [(1, _, _), (2, _, _), (49, _, _), (50, _, _)] (Za rfl (Za rfl (Za rfl (Za rfl (Zd _))))) ?_
         refine Zh (hK42 _ _ ?_)
         refine' Yk [(1, _, _), (2, _, _)] (Za rfl (Za rfl (Za rfl (Zd _)))) rfl (fun hb30 => ?y30) (fun a ha => ⟨ha, rfl⟩)
         case y30 =>
          refine Zg fun K43 hK43 => ?_
          refine Zf [3, 3] ?_
          refine Zc rfl (fun _ => Yh (Zb rfl) Zl) ?_
          refine Zc rfl (fun _ => Ze (Zb rfl)) ?_
          refine Zj [(1, _, _), (2, _, _), (49, _, _), (50, _, _)] (Za rfl (Za rfl (Za rfl (Za rfl (Zd _))))) ?_
          refine Zh (hK43 _ _ ?_)
          refine' Yk [(1, _, _), (2, _, _)] (Za rfl (Za rfl (Za rfl (Zd _)))) rfl (fun hb31 => ?y31) (fun a ha => ⟨ha, rfl⟩)
          case y31 =>
           refine Zg fun K44 hK44 => ?_
           refine Zf [3, 3] ?_
           refine Zc rfl (fun _ => Yh (Zb rfl) Zl) ?_
           refine Zc rfl (fun _ => Ze (Zb rfl)) ?_
           refine Zj [(1, _, _), (2, _, _), (49, _, _), (50, _, _)] (Za rfl (Za rfl (Za rfl (Za rfl (Zd _))))) ?_
           refine Zh (hK44 _ _ ?_)
           refine' Yk [(1, _, _), (2, _, _)] (Za rfl (Za rfl (Za rfl (Zd _)))) rfl (fun hb32 => ?y32) (fun a ha => ⟨ha, rfl⟩)
           case y32 =>
            refine Zg fun K45 hK45 => ?_
            refine Zf [3, 3] ?_
            refine Zc rfl (fun _ => Yh (Zb rfl) Zl) ?_
            refine Zc rfl (fun _ => Ze (Zb rfl)) ?_
            refine Zj [(1, _, _), (2, _, _), (49, _, _), (50, _, _)] (Za rfl (Za rfl (Za rfl (Za rfl (Zd _))))) ?_
            refine Zh (hK45 _ _ ?_)
            refine' Yk [(1, _, _), (2, _, _)] (Za rfl (Za rfl (Za rfl (Zd _)))) rfl (fun hb33 => ?y33) (fun a ha => ⟨ha, rfl⟩)
            case y33 =>
             refine Zg fun K46 hK46 => ?_
             refine Zf [3, 3] ?_
             refine Zc rfl (fun _ => Yh (Zb rfl) Zl) ?_
             refine Zc rfl (fun _ => Ze (Zb rfl)) ?_
             refine Zj [(1, _, _), (2, _, _), (49, _, _), (50, _, _)] (Za rfl (Za rfl (Za rfl (Za rfl (Zd _))))) ?_
             refine Zh (hK46 _ _ ?_)
             refine' Yk [(1, _, _), (2, _, _)] (Za rfl (Za rfl (Za rfl (Zd _)))) rfl (fun hb34 => ?y34) (fun a ha => ⟨ha, rfl⟩)
             case y34 =>
              refine Zf [3, 3] ?_
              refine Zc rfl (fun _ => Yh (Zb rfl) Zl) ?_
              refine Zc rfl (fun _ => Ze (Zb rfl)) ?_
              refine Zj [(50, _, _), (1, _, _), (2, _, _)] (Za rfl (Za rfl (Za rfl (Zd _)))) ?_
              exact Zh (fun a ha => ⟨ha, rfl⟩)
     case n26 =>
      refine Zz (Zb rfl) (fun h35 => ?_) (fun h35 => ?_)
      · (try simp only [bsimp] at h35)
        refine Zg fun K47 hK47 => ?_
        refine Zf [3] ?_
        refine Zc rfl (fun _ => Ze Zl) ?_
        refine Zj [(1, _, _), (2, _, _)] (Za rfl (Za rfl (Zd _))) ?_
        refine Zh (hK47 _ _ ?_)
        refine Yf (Yj rfl rfl ?_)
        refine ⟨congrArg Value.bool ?_, g⟩
        unfold textB'; simp only [binOps, typeNameB, Ul, anyS, h9, h10, h11, h25, h35, cond_true, cond_false] <;> rfl
      (try simp only [bsimp] at h35)
      refine Yq (hK35 _ _ ?_)
      refine Yi [(1, _, _), (2, _, _)] (Za rfl (Za rfl (Zd _))) ?_
      refine Zg fun K48 hK48 => ?_
      refine Zf [3] ?_
      refine Zc rfl (fun _ => Ze Zl) ?_
      refine Zh (hK48 _ _ ?_)
      refine Yf (Yj rfl rfl ?_)
      refine ⟨congrArg Value.bool ?_, g⟩
      unfold textB'; simp only [binOps, typeNameB, Ul, anyS, h9, h10, h11, h25, h35, cond_true, cond_false] <;> rfl
   (try simp only [bsimp] at h25)
   refine Yq (hK2 _ _ ?_)
   refine Yi [(1, _, _), (2, _, _)] (Za rfl (Za rfl (Zd _))) ?_
   refine Zg fun K49 hK49 => ?_
   refine Zf [3, 0, 3, 3] ?_
   refine Zc rfl (fun _ => Zm Yw (Zb rfl)) ?_
   refine Ya rfl (Zt Yt (Zb rfl) (fun _ => B1.at_ rfl)) ?_
   refine Zc rfl (fun _ => Yh (Zb rfl) Zl) ?_
   refine Zc rfl (fun _ => Ze (Zb rfl)) ?_
   refine Zh (hK49 _ _ ?_)
   refine Yf (Yj rfl rfl ?_)
   refine ⟨congrArg Value.bool ?_, g⟩
   unfold textB'; simp only [binOps, typeNameB, Ul, anyS, h9, h10, h11, h25, cond_true, cond_false] <;> rfl
end Go.Rk
