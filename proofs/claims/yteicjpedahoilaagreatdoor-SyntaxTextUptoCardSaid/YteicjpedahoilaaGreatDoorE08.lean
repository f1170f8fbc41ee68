/- Merged texts of one road: SynI, SynJ, Stp, Rtd, Sme, EngD, EngR, Rng2. Conditions: each text's own. -/
import Derived.Test.YteicjpedahoilaaGreatDoorE07
import Derived.Test.YteicjpedahoilaaGreatDoorE04
import Derived.Test.YteicjpedahoilaaGreatDoorE02
import Derived.RangeFuncOwn
import Derived.Test.YteicjpedahoilaaGreatDoorE01
set_option linter.unusedSimpArgs false
set_option linter.unusedVariables false
namespace Go.Rk
open Go Go.RowKit
def fieldB (t : Nd) : Bool := decide (t.kind = 3) && permF t
theorem Ytb (t : Nd) : (!fieldB t) = (((!decide (t.kind = 3) || !nameB t.text) || !lenK t 1) || !isTypeB (kidAt t 0)) := by
 have e : fieldB t = (((decide (t.kind = 3) && nameB t.text) && lenK t 1) && isTypeB (kidAt t 0)) := by
  rw [fieldB]
  by_cases h : t.kind = 3
  ·rw [Vq, locB, textB', formB, h, Xxa]; exact congrArg (true && ·) (fl1 (X := nameB t.text) (q := typK)).symm |>.trans (by rfl)
  ·rw [decide_eq_false h]; rfl
 rw [e]
 cases decide (t.kind = 3) <;> cases nameB t.text <;> cases lenK t 1 <;> cases isTypeB (kidAt t 0) <;> rfl
def declB (t : Nd) : Bool := (memK [2, 6, 4] t.kind && permF t) && !fileVarB t
def Jo (t : Nd) : Bool :=
 bif decide (t.kind = 2) then nameB t.text && t.kids.all fieldB
 else bif decide (t.kind = 6) then varB t && noneB (kidAt t 1)
 else bif decide (t.kind = 4) then
  bif !nameB t.text || !lenK t 3 then false else (((decide ((kidAt t 0).kind = 5) && plainB (kidAt t 0)) && (kidAt t 0).kids.all fieldB) && (noneB (kidAt t 1) || isTypeB (kidAt t 1))) && blockB (kidAt t 2)
 else false
theorem all_field {t : Nd} : (everyB t (memK [3]) && t.kids.all permF) = t.kids.all fieldB := by
 rw [Uba]; congr 1; funext k; rw [Qf]; rfl
theorem params_eq (t : Nd) : ((decide (t.kind = 5) && plainB t) && t.kids.all fieldB) = (memK [5] t.kind && permF t) := by
 rw [Qf]
 by_cases h : t.kind = 5
 ·rw [Vq t, locB, textB', formB, h, Bool.and_assoc]; exact congrArg (true && ·) (by rw [← all_field, ← Bool.and_assoc]; rfl)
 ·rw [decide_eq_false h]; rfl
theorem Zya (t : Nd) : Jo t = declB t := by
 rw [Jo, declB]
 by_cases h : t.kind = 2
 ·rw [Vq t, locB, textB', formB, fileVarB, h]
  refine Eq.trans (b := (nameB t.text && everyB t (memK [3])) && t.kids.all permF) ?_ (Eq.trans (Bool.and_true _).symm rfl)
  rw [Bool.and_assoc (nameB t.text) (everyB t _), all_field]; rfl
 by_cases h1 : t.kind = 6
 ·rw [varB, fileVarB, h1]
  refine Eq.trans (b := permF t && noneB (kidAt t 1)) rfl (Eq.trans (b := permF t && !(!lenK t 2 || !decide ((kidAt t 1).kind = 9))) ?_ rfl)
  rw [Xwa]
  cases hp : permF t with
  | false => rfl
  | true =>
   have hl := Xla (.inr h1) hp
   have hk : permF (kidAt t 1) = true := by
    rw [Vq, Bool.and_eq_true, List.all_eq_true] at hp
    rw [Xu (by omega)]; exact hp.2 _ (List.getElem_mem _)
   rw [hk, show lenK t 2 = true by rw [lenK, decide_eq_true_eq]; omega]
   cases decide ((kidAt t 1).kind = 9) <;> rfl
 by_cases h2 : t.kind = 4
 ·rw [params_eq, Vq t, locB, textB', formB, fileVarB, h2]
  refine Eq.trans (b := bif !nameB t.text || !lenK t 3 then false else ((memK [5] (kidAt t 0).kind && permF (kidAt t 0)) && (noneB (kidAt t 1) || isTypeB (kidAt t 1))) && blockB (kidAt t 2)) rfl (Eq.trans (b := (nameB t.text && kidsB t [memK [5], fun k => typK k || memK [9] k, memK [10]]) && t.kids.all permF) ?_ (Eq.trans (Bool.and_true _).symm rfl))
  rw [Whb, Bool.and_assoc (nameB t.text) (kidsB t _), kids_3, Xwa, Xxa, or_two, blockB, Qf 9, Qf 10]
  ac_rfl
 simp only [memK, List.mem_cons, List.not_mem_nil, h, h1, h2, decide_false, or_false, cond_false, Bool.false_and]
theorem fields_ok (l : List Nd) (p : Option Addr) (c : Nat) (D : Nat → Prop) (w : World) (hk : Kd w D l (.slice p l.length c)) (hln : l.length ≤ 1000000) : Ret PP fn_r03_fields #[.slice p l.length c] w fun r w' => r = .bool (l.all fieldB) ∧ G w w' := by
 have g := G.refl w
 obtain ⟨p', c', hpe, _, hks⟩ := hk
 injection hpe with hpe _ hce
 subst hpe hce
 refine Ym (m := 45) Uzb rfl rfl [(0, True, _)] (Za rfl (Zd _)) ?_
 refine Zg fun K1 hK1 => ?_
 refine Zf [3] ?_
 refine Zc rfl (fun _ => Ze Zl) ?_
 refine Zh (hK1 _ _ ?_)
 refine Zg fun K2 hK2 => ?_
 refine Zg fun K3 hK3 => ?_
 refine Zf [3] ?_
 refine Zc rfl (fun _ => Ze Zl) ?_
 refine Zh (hK3 _ _ ?_)
 refine Yp ?_
 refine Wv (fun (i : Nat) u1 => (i ≤ l.length ∧ ∀ j, (h : j < l.length) → j < i → fieldB l[j] = true) ∧ G w u1) [(0, True, _)] (fun (i : Nat) => [(3, True, .int .i64 i)]) (fun (i : Nat) => l.length - i) (0) ⟨⟨Nat.zero_le _, fun j _ hj => absurd hj (Nat.not_lt_zero j)⟩, G.refl _⟩ (Za rfl (Za rfl (Zd _))) ?_
 rintro i u1 ⟨hI1, gl1⟩
 have g := g.trans gl1
 refine Zg fun K4 hK4 => ?_
 refine Zg fun K5 hK5 => ?_
 refine Zf [3, 3, 3, 3] ?_
 refine Zc rfl (fun _ => Zi (Zb rfl)) ?_
 refine Zc rfl (fun _ => Zi (Zb rfl)) ?_
 refine Zc rfl (fun _ => Xx Zo (Zb rfl)) ?_
 refine Zc rfl (fun _ => Vh (Zb rfl) (Zb rfl)) ?_
 refine Zj [(0, _, _), (3, _, _), (7, _, _)] (Za rfl (Za rfl (Za rfl (Zd _)))) ?_
 refine Zh (hK5 _ _ ?_)
 refine Zz (Zb rfl) (fun h1 => ?_) (fun h1 => ?_)
 ·replace h1 : i < l.length := by simp only [decide_eq_true_eq] at h1; omega
  obtain ⟨b, o, rfl, hD, xs, hR, hX⟩ := hks (by omega)
  obtain ⟨p', c', hcell, hkid⟩ := Yna hR hX h1
  obtain ⟨p3, c3, h0x⟩ := Jdb hkid 0
  refine Yq (hK4 _ _ ?_)
  refine Yi [(0, _, _), (3, _, _)] (Za rfl (Za rfl (Zd _))) ?_
  refine Zg fun K6 hK6 => ?_
  refine Yp ?_
  refine Zg fun K7 hK7 => ?_
  refine Zf [3, 3, 3, 3, 0, 3, 3, 3, 3, 3, 3, 0, 1, 3, 3, 3, 3, 3, 3, 3, 0, 3, 3, 3, 3, 3, 3, 3, 3, 0, 3, 0, 1, 3, 3] ?_
  refine Zc rfl (fun _ => Zi (Zb rfl)) ?_
  refine Zc rfl (fun _ => Zi (Zb rfl)) ?_
  refine Zc rfl (fun _ => Uc Zo (Zb rfl) (Zb rfl) (fun _ => by omega)) ?_
  refine Zc rfl (fun _ => Zm Ys (Zb rfl)) ?_
  refine Ya rfl (Zt Yy (Zb rfl) (fun _ => (hcell.grow g) 0 _ rfl)) ?_
  refine Zc rfl (fun _ => Qi (Zb rfl) Zl) ?_
  refine Zc rfl (fun _ => Zi (Zb rfl)) ?_
  refine Zs rfl rfl rfl (fun _ => Zi (Zb rfl)) ?_
  refine Zs rfl rfl rfl (fun _ => Zi (Zb rfl)) ?_
  refine Zs rfl rfl rfl (fun _ => Uc Zo (Zy rfl id) (Zy rfl id) (fun _ => by omega)) ?_
  refine Zs rfl rfl rfl (fun _ => Zm Yw (Zy rfl id)) ?_
  refine Yr rfl rfl rfl (Zt Yt (Zy rfl id) (fun _ => (hcell.grow g) 1 _ rfl)) ?_
  refine Xb rfl rfl rfl (fun _ => (Zu Qj Yl (Zk (Zy rfl id) (Zn)) rfl)) (fun hc => Yoa _ _) (fun w22 g22 => ?_)
  have g := g.trans (g22)
  try have gl1 := gl1.trans (g22)
  refine Zs rfl rfl rfl (fun _ => Ub (Zy rfl id)) ?_
  refine Zc rfl (fun _ => Yz (Zb rfl) (Zy rfl id)) ?_
  refine Zc rfl (fun _ => Zi (Zb rfl)) ?_
  refine Zs rfl rfl rfl (fun _ => Zi (Zb rfl)) ?_
  refine Zs rfl rfl rfl (fun _ => Zi (Zb rfl)) ?_
  refine Zs rfl rfl rfl (fun _ => Uc Zo (Zy rfl id) (Zy rfl id) (fun _ => by omega)) ?_
  refine Zs rfl rfl rfl (fun _ => Zm Zv (Zy rfl id)) ?_
  refine Yr rfl rfl rfl (Zt Zq (Zy rfl id) (fun _ => (hcell.grow g) 4 _ rfl)) ?_
  refine Zs rfl rfl rfl (fun _ => Xx Zo (Zy rfl id)) ?_
  refine Zs rfl rfl rfl (fun _ => Qi (Zy rfl id) Zl) ?_
  refine Zc rfl (fun _ => Yz (Zb rfl) (Zy rfl id)) ?_
  refine Zc rfl (fun _ => Zi (Zb rfl)) ?_
  refine Zs rfl rfl rfl (fun _ => Zi (Zb rfl)) ?_
  refine Zs rfl rfl rfl (fun _ => Zi (Zb rfl)) ?_
  refine Zs rfl rfl rfl (fun _ => Uc Zo (Zy rfl id) (Zy rfl id) (fun _ => by omega)) ?_
  refine Zs rfl rfl rfl (fun _ => Zm Zv (Zy rfl id)) ?_
  refine Yr rfl rfl rfl (Zt Zq (Zy rfl id) (fun _ => (hcell.grow g) 4 _ rfl)) ?_
  refine Zs rfl rfl rfl (fun _ => Xc Zo (Zy rfl id) Zl (fun hc => by (have hz := hc.2; first | (unfold lenK at hz; simp at hz; omega) | (simp at hz; omega))) (fun hc => (h0x (by (have hz := hc.2; first | (unfold lenK at hz; simp at hz; omega) | (simp at hz; omega)))).1)) ?_
  refine Yr rfl rfl rfl (Yb Zr (Zy rfl id) rfl (fun hc => (h0x (by (have hz := hc.2; first | (unfold lenK at hz; simp at hz; omega) | (simp at hz; omega)))).2.1.grow g)) ?_
  refine Xb rfl rfl rfl (fun _ => (Zu Vba Yl (Zk (Zy rfl id) (Zn)) rfl)) (fun hc => Vnb _ _ _ _) (fun w42 g42 => ?_)
  have g := g.trans (g42)
  try have gl1 := gl1.trans (g42)
  refine Zs rfl rfl rfl (fun _ => Ub (Zy rfl id)) ?_
  refine Zc rfl (fun _ => Yz (Zb rfl) (Zy rfl id)) ?_
  refine Zj [(0, _, _), (3, _, _), (44, _, _)] (Za rfl (Za rfl (Za rfl (Zd _)))) ?_
  refine Zh (hK7 _ _ ?_)
  refine Zz (Zb rfl) (fun h2 => ?_) (fun h2 => ?_)
  ·replace h2 : fieldB l[i] = false := by simpa using (Ytb _).trans h2
   refine Zg fun K8 hK8 => ?_
   refine Zf [3] ?_
   refine Zc rfl (fun _ => Ze Zl) ?_
   refine Zj [(0, _, _), (2, _, _), (3, _, _)] (Za rfl (Za rfl (Za rfl (Zd _)))) ?_
   refine Zh (hK8 _ _ ?_)
   refine Yf (Yj rfl rfl ?_)
   refine ⟨congrArg Value.bool ?_, g⟩
   rw [eq_comm, List.all_eq_false]
   exact ⟨_, List.getElem_mem h1, by rw [h2]; simp⟩
  replace h2 : fieldB l[i] = true := by simpa using (Ytb _).trans h2
  refine Yq (hK6 _ _ ?_)
  refine Yi [(0, _, _), (3, _, _)] (Za rfl (Za rfl (Zd _))) ?_
  refine Zf [3, 3, 3] ?_
  refine Zc rfl (fun _ => Zi (Zb rfl)) ?_
  refine Zc rfl (fun _ => Xq (Zb rfl) Zl (fun _ => by omega)) ?_
  refine Zc rfl (fun _ => Ze (Zb rfl)) ?_
  refine Zj [(3, _, _), (0, _, _)] (Za rfl (Za rfl (Zd _))) ?_
  refine Zh (fun a ha => ?_)
  refine ⟨i + 1, ha, ⟨⟨h1, fun j h hj => ?_⟩, gl1⟩, by omega⟩
  by_cases e : j = i
  ·subst e; exact h2
  ·exact hI1.2 j h (by omega)
 (try simp only [bsimp] at h1)
 refine Wa rfl (hK2 _ _ ?_)
 refine Yi [] (Zd _) ?_
 refine Zg fun K9 hK9 => ?_
 refine Zf [3] ?_
 refine Zc rfl (fun _ => Ze Zl) ?_
 refine Zh (hK9 _ _ ?_)
 refine Yf (Yj rfl rfl ?_)
 refine ⟨congrArg Value.bool ?_, g⟩
 rw [eq_comm, List.all_eq_true]
 intro x hx
 obtain ⟨j, hj, rfl⟩ := List.getElem_of_mem hx
 exact hI1.2 j hj (by simp only [decide_eq_false_iff_not] at h1; omega)
theorem isdecl_ok (t : Nd) (p : Option Addr) (c : Nat) (D : Nat → Prop) (w : World) (hk : Kd w D t.kids (.slice p t.kids.length c)) (hcn : count t ≤ 1000000) : Ret PP fn_r03_isDecl #[ndV t (.slice p t.kids.length c)] w fun r w' => r = .bool (declB t) ∧ G w w' := by
 rw [← Zya]
 have g := G.refl w
 have hln := Qm t
 have ih : Blw t := fun k hk => rok k (by omega)
 obtain ⟨p1, c1, h1x⟩ := Yib hk ih 1
 refine Ym (m := 77) Uxb rfl rfl [(0, True, _)] (Za rfl (Zd _)) ?_
 refine Zg fun K1 hK1 => ?_
 refine Zf [1, 3] ?_
 refine Wd rfl (Zb rfl) rfl ?_
 intro b1 w1 N1
 have l1 := N1.ge g
 have g := g.trans (N1.g)
 have B1 := N1.blk
 refine Zc rfl (fun _ => Ze Zl) ?_
 refine Zj [(1, _, _), (2, _, _)] (Za rfl (Za rfl (Zd _))) ?_
 refine Zh (hK1 _ _ ?_)
 refine Zg fun K2 hK2 => ?_
 refine Zg fun K3 hK3 => ?_
 refine Zf [3, 0] ?_
 refine Zc rfl (fun _ => Zm Ys (Zb rfl)) ?_
 refine Ya rfl (Zt Yy (Zb rfl) (fun _ => B1.at_ rfl)) ?_
 refine Zj [(1, _, _), (2, _, _), (5, _, _)] (Za rfl (Za rfl (Za rfl (Zd _)))) ?_
 refine Zh (hK3 _ _ ?_)
 refine Yp ?_
 refine Zg fun K4 hK4 => ?_
 refine Zf [3, 3] ?_
 refine Zc rfl (fun _ => Yg (Zb rfl) Zl) ?_
 refine Zc rfl (fun _ => Ze (Zb rfl)) ?_
 refine Zj [(1, _, _), (2, _, _), (5, _, _), (6, _, _)] (Za rfl (Za rfl (Za rfl (Za rfl (Zd _))))) ?_
 refine Zh (hK4 _ _ ?_)
 refine Zz (Zb rfl) (fun h1 => ?_) (fun h1 => ?_)
 ·(try simp only [bsimp] at h1)
  refine Zg fun K5 hK5 => ?_
  refine Zf [3, 0, 1, 3, 3, 0, 1, 3, 3] ?_
  refine Zc rfl (fun _ => Zm Yw (Zb rfl)) ?_
  refine Ya rfl (Zt Yt (Zb rfl) (fun _ => B1.at_ rfl)) ?_
  refine Xe rfl (Zu Qj Yl (Zk (Zb rfl) (Zn)) rfl) (Yoa _ _) (fun w10 g10 => ?_)
  have g := g.trans (g10)
  replace B1 := B1.grow (g10)
  refine Zc rfl (fun _ => Zi (Zb rfl)) ?_
  refine Zs rfl rfl rfl (fun _ => Zm Zv (Zb rfl)) ?_
  refine Yr rfl rfl rfl (Zt Zq (Zy rfl id) (fun _ => B1.at_ rfl)) ?_
  refine Xb rfl rfl rfl (fun _ => (Zu Ybb Yl (Zk (Zy rfl id) (Zn)) rfl)) (fun hc => fields_ok _ _ _ D _ (hk.grow g) (by omega)) (fun w14 g14 => ?_)
  have g := g.trans (g14)
  replace B1 := B1.grow (g14)
  refine Zc rfl (fun _ => Ye (Zb rfl) (Zy rfl id)) ?_
  refine Zc rfl (fun _ => Ze (Zb rfl)) ?_
  refine Zj [(2, _, _)] (Za rfl (Zd _)) ?_
  refine Zh (hK5 _ _ ?_)
  refine Yf (Yj rfl rfl ?_)
  refine ⟨congrArg Value.bool ?_, g⟩
  unfold Jo; simp only [h1, cond_true, cond_false] <;> rfl
 (try simp only [bsimp] at h1)
 refine Zg fun K6 hK6 => ?_
 refine Zf [3, 3] ?_
 refine Zc rfl (fun _ => Yg (Zb rfl) Zl) ?_
 refine Zc rfl (fun _ => Ze (Zb rfl)) ?_
 refine Zj [(1, _, _), (2, _, _), (5, _, _), (16, _, _)] (Za rfl (Za rfl (Za rfl (Za rfl (Zd _))))) ?_
 refine Zh (hK6 _ _ ?_)
 refine Zz (Zb rfl) (fun h2 => ?_) (fun h2 => ?_)
 ·have hk2 : t.kind = 6 := by simpa using h2
  refine Zg fun K7 hK7 => ?_
  refine Zf [0, 1, 3, 3, 0, 3, 0, 1, 3, 3] ?_
  refine Ya rfl (Yb Zr (Zb rfl) rfl (fun _ => B1.row)) ?_
  refine Xe rfl (Zu Xpb Yl (Zk (Zb rfl) (Zn)) rfl) (isvar_ok t _ _ D _ (hk.grow g) ih) (fun w19 g19 => ?_)
  have g := g.trans (g19)
  replace B1 := B1.grow (g19)
  refine Zc rfl (fun _ => Zi (Zb rfl)) ?_
  refine Zs rfl rfl rfl (fun _ => Zm Zv (Zb rfl)) ?_
  refine Yr rfl rfl rfl (Zt Zq (Zy rfl id) (fun _ => B1.at_ rfl)) ?_
  refine Zs rfl rfl rfl (fun _ => Xc Zo (Zy rfl id) Zl (fun hc => by have := Xla (.inr hk2) (Bool.and_eq_true_iff.1 hc.2).2; omega) (fun hc => (h1x (by have := Xla (.inr hk2) (Bool.and_eq_true_iff.1 hc.2).2; omega)).1)) ?_
  refine Yr rfl rfl rfl (Yb Zr (Zy rfl id) rfl (fun hc => (h1x (by have := Xla (.inr hk2) (Bool.and_eq_true_iff.1 hc.2).2; omega)).2.1.grow g)) ?_
  refine Xb rfl rfl rfl (fun _ => (Zu Qz Yl (Zk (Zy rfl id) (Zn)) rfl)) (fun hc => Zfb _ _ _ _) (fun w25 g25 => ?_)
  have g := g.trans (g25)
  replace B1 := B1.grow (g25)
  refine Zc rfl (fun _ => Ye (Zb rfl) (Zy rfl id)) ?_
  refine Zc rfl (fun _ => Ze (Zb rfl)) ?_
  refine Zj [(2, _, _)] (Za rfl (Zd _)) ?_
  refine Zh (hK7 _ _ ?_)
  refine Yf (Yj rfl rfl ?_)
  refine ⟨congrArg Value.bool ?_, g⟩
  unfold Jo; simp only [h1, h2, cond_true, cond_false] <;> rfl
 (try simp only [bsimp] at h2)
 refine Zg fun K8 hK8 => ?_
 refine Zf [3, 3] ?_
 refine Zc rfl (fun _ => Yg (Zb rfl) Zl) ?_
 refine Zc rfl (fun _ => Ze (Zb rfl)) ?_
 refine Zj [(1, _, _), (2, _, _), (27, _, _)] (Za rfl (Za rfl (Za rfl (Zd _)))) ?_
 refine Zh (hK8 _ _ ?_)
 refine Zz (Zb rfl) (fun h3 => ?_) (fun h3 => ?_)
 ·(try simp only [bsimp] at h3)
  refine Zg fun K9 hK9 => ?_
  refine Zg fun K10 hK10 => ?_
  refine Zf [3, 0, 1, 3, 3, 3, 0, 3, 3, 3] ?_
  refine Zc rfl (fun _ => Zm Yw (Zb rfl)) ?_
  refine Ya rfl (Zt Yt (Zb rfl) (fun _ => B1.at_ rfl)) ?_
  refine Xe rfl (Zu Qj Yl (Zk (Zb rfl) (Zn)) rfl) (Yoa _ _) (fun w31 g31 => ?_)
  have g := g.trans (g31)
  replace B1 := B1.grow (g31)
  refine Zc rfl (fun _ => Ub (Zb rfl)) ?_
  refine Zc rfl (fun _ => Zi (Zb rfl)) ?_
  refine Zs rfl rfl rfl (fun _ => Zm Zv (Zb rfl)) ?_
  refine Yr rfl rfl rfl (Zt Zq (Zy rfl id) (fun _ => B1.at_ rfl)) ?_
  refine Zs rfl rfl rfl (fun _ => Xx Zo (Zy rfl id)) ?_
  refine Zs rfl rfl rfl (fun _ => Qi (Zy rfl id) Zl) ?_
  refine Zc rfl (fun _ => Yz (Zb rfl) (Zy rfl id)) ?_
  refine Zj [(1, _, _), (2, _, _), (38, _, _)] (Za rfl (Za rfl (Za rfl (Zd _)))) ?_
  refine Zh (hK10 _ _ ?_)
  refine Zz (Zb rfl) (fun h4 => ?_) (fun h4 => ?_)
  ·replace h4 : (!nameB t.text || !lenK t 3) = true := h4
   refine Zg fun K11 hK11 => ?_
   refine Zf [3] ?_
   refine Zc rfl (fun _ => Ze Zl) ?_
   refine Zj [(1, _, _), (2, _, _)] (Za rfl (Za rfl (Zd _))) ?_
   refine Zh (hK11 _ _ ?_)
   refine Yf (Yj rfl rfl ?_)
   refine ⟨congrArg Value.bool ?_, g⟩
   unfold Jo; simp only [h1, h2, h3, h4, cond_true, cond_false] <;> rfl
  replace h4 : (!nameB t.text || !lenK t 3) = false := h4
  have hl3 : t.kids.length = 3 := by simp only [lenK, Bool.or_eq_false_iff, Bool.not_eq_false', decide_eq_true_eq] at h4; omega
  obtain ⟨hpe, p0, c0, hcell0, hkid0⟩ := Xw hk (i := 0) (by omega)
  obtain ⟨_, p2, c2, hcell2, hkid2⟩ := Xw hk (i := 2) (by omega)
  obtain ⟨_, hcell1, hkid1, hr1⟩ := h1x (by omega)
  have hr2 := ih.kid (i := 2) (by omega)
  have hkl0 := kidAt_len hcn 0
  refine Yq (hK9 _ _ ?_)
  refine Yi [(1, _, _), (2, _, _)] (Za rfl (Za rfl (Zd _))) ?_
  refine Zg fun K12 hK12 => ?_
  refine Zf [3, 0, 3, 0, 1, 2] ?_
  refine Zc rfl (fun _ => Zm Zv (Zb rfl)) ?_
  refine Ya rfl (Zt Zq (Zb rfl) (fun _ => B1.at_ rfl)) ?_
  refine Zc rfl (fun _ => Xc Zo (Zb rfl) Zl (fun _ => by omega) (fun _ => hpe)) ?_
  refine Ya rfl (Yb Zr (Zb rfl) rfl (fun _ => hcell0.grow g)) ?_
  refine Xr rfl Yo rfl ?_
  intro b3 w3 N3
  have x3_1 := N3.ne B1
  have l3 := N3.ge g
  have g := g.trans (N3.g)
  replace B1 := B1.grow (N3.g)
  have B3 := N3.blk
  refine Yu rfl Xi (Zb rfl) (Zb rfl) rfl rfl B3 rfl rfl ?_
  intro wS1 hgS1 hzS1
  clear B3
  intro B3
  replace B1 := B1.keep hgS1 (by intro h; injection h with h; first | exact x3_1 h.symm | exact x1_3 h | omega)
  have g := Xo g hgS1 (by intro k hk; injection hk with hk; omega)
  refine Zj [(1, _, _), (2, _, _), (3, _, _)] (Za rfl (Za rfl (Za rfl (Zd _)))) ?_
  refine Zh (hK12 _ _ ?_)
  refine Zg fun K13 hK13 => ?_
  refine Zf [3, 0, 3, 3, 3, 0, 3, 3, 3, 3, 0, 1, 3, 3, 3, 0, 3, 0, 1, 3, 3, 0, 3, 0, 1, 3, 3, 3, 3, 0, 3, 0, 1, 3, 3] ?_
  refine Zc rfl (fun _ => Zm Ys (Zb rfl)) ?_
  refine Ya rfl (Zt Yy (Zb rfl) (fun _ => B3.at_ rfl)) ?_
  refine Zc rfl (fun _ => Yg (Zb rfl) Zl) ?_
  refine Zc rfl (fun _ => Zi (Zb rfl)) ?_
  refine Zs rfl rfl rfl (fun _ => Zm Yw (Zb rfl)) ?_
  refine Yr rfl rfl rfl (Zt Yt (Zy rfl id) (fun _ => B3.at_ rfl)) ?_
  refine Zs rfl rfl rfl (fun _ => Yh (Zy rfl id) Zl) ?_
  refine Zc rfl (fun _ => Ye (Zb rfl) (Zy rfl id)) ?_
  refine Zc rfl (fun _ => Zi (Zb rfl)) ?_
  refine Zs rfl rfl rfl (fun _ => Zm Zv (Zb rfl)) ?_
  refine Yr rfl rfl rfl (Zt Zq (Zy rfl id) (fun _ => B3.at_ rfl)) ?_
  refine Xb rfl rfl rfl (fun _ => (Zu Ybb Yl (Zk (Zy rfl id) (Zn)) rfl)) (fun hc => fields_ok _ _ _ D _ (hkid0.grow g) hkl0) (fun w54 g54 => ?_)
  have g := g.trans (g54)
  replace B1 := B1.grow (g54)
  replace B3 := B3.grow (g54)
  refine Zc rfl (fun _ => Ye (Zb rfl) (Zy rfl id)) ?_
  refine Zc rfl (fun _ => Zi (Zb rfl)) ?_
  refine Zs rfl rfl rfl (fun _ => Zm Zv (Zb rfl)) ?_
  refine Yr rfl rfl rfl (Zt Zq (Zy rfl id) (fun _ => B1.at_ rfl)) ?_
  refine Zs rfl rfl rfl (fun _ => Xc Zo (Zy rfl id) Zl (fun _ => by omega) (fun _ => hpe)) ?_
  refine Yr rfl rfl rfl (Yb Zr (Zy rfl id) rfl (fun _ => hcell1.grow g)) ?_
  refine Xb rfl rfl rfl (fun _ => (Zu Qz Yl (Zk (Zy rfl id) (Zn)) rfl)) (fun hc => Zfb _ _ _ _) (fun w61 g61 => ?_)
  have g := g.trans (g61)
  replace B1 := B1.grow (g61)
  replace B3 := B3.grow (g61)
  refine Zs rfl rfl rfl (fun _ => Zi (Zy rfl id)) ?_
  refine Zs rfl rfl rfl (fun _ => Zm Zv (Zb rfl)) ?_
  refine Yr rfl rfl rfl (Zt Zq (Zy rfl id) (fun _ => B1.at_ rfl)) ?_
  refine Zs rfl rfl rfl (fun _ => Xc Zo (Zy rfl id) Zl (fun _ => by omega) (fun _ => hpe)) ?_
  refine Yr rfl rfl rfl (Yb Zr (Zy rfl id) rfl (fun _ => hcell1.grow g)) ?_
  refine Xb rfl rfl rfl (fun _ => (Zu Vba Yl (Zk (Zy rfl id) (Zn)) rfl)) (fun hc => Vnb _ _ _ _) (fun w67 g67 => ?_)
  have g := g.trans (g67)
  replace B1 := B1.grow (g67)
  replace B3 := B3.grow (g67)
  refine Zs rfl rfl rfl (fun _ => Yz (Zy rfl id) (Zy rfl id)) ?_
  refine Zc rfl (fun _ => Ye (Zb rfl) (Zy rfl id)) ?_
  refine Zc rfl (fun _ => Zi (Zb rfl)) ?_
  refine Zs rfl rfl rfl (fun _ => Zm Zv (Zb rfl)) ?_
  refine Yr rfl rfl rfl (Zt Zq (Zy rfl id) (fun _ => B1.at_ rfl)) ?_
  refine Zs rfl rfl rfl (fun _ => Xc Zo (Zy rfl id) Zl (fun _ => by omega) (fun _ => hpe)) ?_
  refine Yr rfl rfl rfl (Yb Zr (Zy rfl id) rfl (fun _ => hcell2.grow g)) ?_
  refine Xb rfl rfl rfl (fun _ => (Zu Un Yl (Zk (Zy rfl id) (Zn)) rfl)) (fun hc => hr2.bl _ _ D _ (hkid2.grow g)) (fun w75 g75 => ?_)
  have g := g.trans (g75)
  replace B1 := B1.grow (g75)
  replace B3 := B3.grow (g75)
  refine Zc rfl (fun _ => Ye (Zb rfl) (Zy rfl id)) ?_
  refine Zc rfl (fun _ => Ze (Zb rfl)) ?_
  refine Zj [(2, _, _)] (Za rfl (Zd _)) ?_
  refine Zh (hK13 _ _ ?_)
  refine Yf (Yj rfl rfl ?_)
  refine ⟨congrArg Value.bool ?_, g⟩
  unfold Jo; simp only [h1, h2, h3, h4, cond_true, cond_false] <;> rfl
 (try simp only [bsimp] at h3)
 refine Yq (hK2 _ _ ?_)
 refine Yi [(2, _, _)] (Za rfl (Zd _)) ?_
 refine Zg fun K14 hK14 => ?_
 refine Zf [3] ?_
 refine Zc rfl (fun _ => Ze Zl) ?_
 refine Zh (hK14 _ _ ?_)
 refine Yf (Yj rfl rfl ?_)
 refine ⟨congrArg Value.bool ?_, g⟩
 unfold Jo; simp only [h1, h2, h3, cond_true, cond_false] <;> rfl
theorem rdepth_ok : ∀ (t : Nd) (v : Value) (D : Nat → Prop) (w : World), Kd w D t.kids v → count t ≤ 1000000 → Ret PP fn_r03_Depth #[ndV t v] w fun r w' => r = .int .i64 (depthN t : Nat) ∧ G w w' := by
 refine Nd.ind fun t ih v D w hk hcn => ?_
 obtain ⟨p, c, rfl, hcap, hks⟩ := hk
 have g := G.refl w
 have hlen := Qm t
 have hdc := depthN_count t
 have hde := Vob t
 have hpre : ∀ i, maxL ((t.kids.take i).map depthN) ≤ maxL (t.kids.map depthN) := fun i => by
  rw [Jeb]
  intro x hx
  rw [List.map_take] at hx
  exact (Jeb _ _).1 (Nat.le_refl _) x (List.mem_of_mem_take hx)
 refine Ym (m := 22) Zac rfl rfl [(0, True, _)] (Za rfl (Zd _)) ?_
 refine Zg fun K1 hK1 => ?_
 refine Zf [1, 3] ?_
 refine Wd rfl (Zb rfl) rfl ?_
 intro b1 w1 N1
 have l1 := N1.ge g
 have g := g.trans (N1.g)
 have B1 := N1.blk
 refine Zc rfl (fun _ => Ze Zl) ?_
 refine Zj [(1, _, _), (2, _, _)] (Za rfl (Za rfl (Zd _))) ?_
 refine Zh (hK1 _ _ ?_)
 refine Zg fun K2 hK2 => ?_
 refine Zf [3] ?_
 refine Zc rfl (fun _ => Ze Zl) ?_
 refine Zh (hK2 _ _ ?_)
 refine Zg fun K3 hK3 => ?_
 refine Zg fun K4 hK4 => ?_
 refine Zf [3] ?_
 refine Zc rfl (fun _ => Ze Zl) ?_
 refine Zh (hK4 _ _ ?_)
 refine Yp ?_
 refine Wv (fun (i : Nat) u1 => (i ≤ t.kids.length) ∧ G w1 u1) [(1, True, _), (2, True, _)] (fun (i : Nat) => [(3, True, .int .i64 ((maxL ((t.kids.take i).map depthN) : Nat) : Int)), (4, True, .int .i64 i)]) (fun (i : Nat) => t.kids.length - i) (0) ⟨by simp, G.refl _⟩ (Za rfl (Za rfl (Za rfl (Za rfl (Zd _))))) ?_
 rintro i u1 ⟨hI1, gl1⟩
 have g := g.trans gl1
 replace B1 := B1.grow (gl1)
 refine Zg fun K5 hK5 => ?_
 refine Zg fun K6 hK6 => ?_
 refine Zf [3, 3, 0, 3, 3] ?_
 refine Zc rfl (fun _ => Zi (Zb rfl)) ?_
 refine Zc rfl (fun _ => Zm Zv (Zb rfl)) ?_
 refine Ya rfl (Zt Zq (Zb rfl) (fun _ => B1.at_ rfl)) ?_
 refine Zc rfl (fun _ => Xx Zo (Zb rfl)) ?_
 refine Zc rfl (fun _ => Vh (Zb rfl) (Zb rfl)) ?_
 refine Zj [(1, _, _), (2, _, _), (3, _, _), (4, _, _), (9, _, _)] (Za rfl (Za rfl (Za rfl (Za rfl (Za rfl (Zd _)))))) ?_
 refine Zh (hK6 _ _ ?_)
 refine Zz (Zb rfl) (fun h1 => ?_) (fun h1 => ?_)
 ·replace h1 : i < t.kids.length := by simp only [decide_eq_true_eq] at h1; omega
  obtain ⟨b, o, rfl, hD, xs, hR, hX⟩ := hks (by omega)
  obtain ⟨p', c', hcell, hkid⟩ := Yna hR hX h1
  have hck := Ju h1
  refine Yq (hK5 _ _ ?_)
  refine Yi [(1, _, _), (2, _, _), (3, _, _), (4, _, _)] (Za rfl (Za rfl (Za rfl (Za rfl (Zd _))))) ?_
  refine Zg fun K7 hK7 => ?_
  refine Yp ?_
  refine Zf [3, 3, 0, 3, 3, 0, 1, 3, 3] ?_
  refine Zc rfl (fun _ => Zi (Zb rfl)) ?_
  refine Zc rfl (fun _ => Zm Zv (Zb rfl)) ?_
  refine Ya rfl (Zt Zq (Zb rfl) (fun _ => B1.at_ rfl)) ?_
  refine Zc rfl (fun _ => Zi (Zb rfl)) ?_
  refine Zc rfl (fun _ => Uc Zo (Zb rfl) (Zb rfl) (fun _ => by omega)) ?_
  refine Ya rfl (Yb Zr (Zb rfl) rfl (fun _ => hcell.grow g)) ?_
  refine Xe rfl (Zu Xob Yl (Zk (Zb rfl) (Zn)) rfl) (ih _ (List.getElem_mem h1) _ _ _ (hkid.grow g) (by omega)) (fun w18 g18 => ?_)
  have g := g.trans (g18)
  try have gl1 := gl1.trans (g18)
  replace B1 := B1.grow (g18)
  refine Zc rfl (fun _ => rd_max (Zb rfl) (Zb rfl)) ?_
  refine Zc rfl (fun _ => Ze (Zb rfl)) ?_
  refine Zj [(1, _, _), (2, _, _), (3, _, _), (4, _, _)] (Za rfl (Za rfl (Za rfl (Za rfl (Zd _))))) ?_
  refine Zh (hK7 _ _ ?_)
  refine Zf [3, 3, 3] ?_
  refine Zc rfl (fun _ => Zi (Zb rfl)) ?_
  refine Zc rfl (fun _ => Xq (Zb rfl) Zl (fun _ => by omega)) ?_
  refine Zc rfl (fun _ => Ze (Zb rfl)) ?_
  refine Zj [(3, _, _), (4, _, _), (1, _, _), (2, _, _)] (Za rfl (Za rfl (Za rfl (Za rfl (Zd _))))) ?_
  refine Zh (fun a ha => ?_)
  rw [max_nat, show max (maxL ((t.kids.take i).map depthN)) (depthN t.kids[i]) = maxL ((t.kids.take (i + 1)).map depthN) by rw [Vja depthN t.kids i h1, maxL, maxL, List.foldl_append]; rfl] at ha
  exact ⟨i + 1, ha, ⟨h1, gl1⟩, by omega⟩
 replace h1 : i = t.kids.length := by simp only [decide_eq_false_iff_not] at h1; omega
 have hp := hpre i
 refine Wa rfl (hK3 _ _ ?_)
 refine Yi [(2, _, _), (3, _, _)] (Za rfl (Za rfl (Zd _))) ?_
 refine Zg fun K8 hK8 => ?_
 refine Zf [3, 3, 3] ?_
 refine Zc rfl (fun _ => Zi (Zb rfl)) ?_
 refine Zc rfl (fun _ => Xq (Zb rfl) Zl (fun _ => by omega)) ?_
 refine Zc rfl (fun _ => Ze (Zb rfl)) ?_
 refine Zh (hK8 _ _ ?_)
 refine Yf (Yj rfl rfl ?_)
 refine ⟨?_, g⟩
 rw [h1, List.take_length, hde]; rfl
theorem rvalid_eq (t : Nd) : (bif (!decide (t.kind = 1) || !plainB t) || decide ((50 : Int) < (depthN t : Nat)) then false else t.kids.all declB) = validB t := by
 rw [validB, permB]
 by_cases h : t.kind = 1
 ·rw [Vq, locB, textB', formB, h]
  refine Eq.trans (b := bif !plainB t || decide ((50 : Int) < (depthN t : Nat)) then false else t.kids.all declB) rfl (Eq.trans (b := ((plainB t && (!(t.kids.any fileVarB) && everyB t (memK [2, 6, 4]))) && t.kids.all permF) && decide (depthN t ≤ 50)) ?_ rfl)
  have e1 : decide ((50 : Int) < (depthN t : Nat)) = !decide (depthN t ≤ 50) := by
   rw [← decide_not, decide_eq_decide]; omega
  have e2 : t.kids.all declB = ((!(t.kids.any fileVarB) && everyB t (memK [2, 6, 4])) && t.kids.all permF) := by
   rw [Bool.and_assoc, Uba, Bool.eq_iff_iff]
   simp only [Bool.and_eq_true, List.all_eq_true, declB, Bool.not_eq_true', List.any_eq_false]
   constructor
   ·intro h; exact ⟨fun k hk => by rw [(h k hk).2]; simp, fun k hk => (h k hk).1⟩
   ·rintro ⟨h1, h2⟩ k hk; exact ⟨h2 k hk, by simpa using h1 k hk⟩
  rw [e1, Whb, e2]; ac_rfl
 ·rw [decide_eq_false h]; rfl
theorem Ulb (t : Nd) (v : Value) (D : Nat → Prop) (w : World) (hk : Kd w D t.kids v) (hcn : count t ≤ 1000000) : Ret PP fn_r03_Valid #[ndV t v] w fun r w' => r = .bool (validB t) ∧ G w w' := by
 rw [← rvalid_eq]
 obtain ⟨p, c, rfl, hcap, hks⟩ := hk
 have hk0 : Kd w D t.kids (.slice p t.kids.length c) := ⟨p, c, rfl, hcap, hks⟩
 have g := G.refl w
 have hln := Qm t
 refine Ym (m := 31) Jxb rfl rfl [(0, True, _)] (Za rfl (Zd _)) ?_
 refine Zg fun K1 hK1 => ?_
 refine Zf [1, 3] ?_
 refine Wd rfl (Zb rfl) rfl ?_
 intro b1 w1 N1
 have l1 := N1.ge g
 have g := g.trans (N1.g)
 have B1 := N1.blk
 refine Zc rfl (fun _ => Ze Zl) ?_
 refine Zj [(1, _, _), (2, _, _)] (Za rfl (Za rfl (Zd _))) ?_
 refine Zh (hK1 _ _ ?_)
 refine Zg fun K2 hK2 => ?_
 refine Zg fun K3 hK3 => ?_
 refine Zf [3, 0, 3, 3, 3, 0, 3, 3, 3, 0, 1, 3, 3] ?_
 refine Zc rfl (fun _ => Zm Ys (Zb rfl)) ?_
 refine Ya rfl (Zt Yy (Zb rfl) (fun _ => B1.at_ rfl)) ?_
 refine Zc rfl (fun _ => Qi (Zb rfl) Zl) ?_
 refine Zc rfl (fun _ => Zi (Zb rfl)) ?_
 refine Zs rfl rfl rfl (fun _ => Zm Yw (Zb rfl)) ?_
 refine Yr rfl rfl rfl (Zt Yt (Zy rfl id) (fun _ => B1.at_ rfl)) ?_
 refine Zs rfl rfl rfl (fun _ => Jmb (Zy rfl id) Zl) ?_
 refine Zc rfl (fun _ => Yz (Zb rfl) (Zy rfl id)) ?_
 refine Zc rfl (fun _ => Zi (Zb rfl)) ?_
 refine Yr rfl rfl rfl (Yb Zr (Zb rfl) rfl (fun _ => B1.row)) ?_
 refine Xb rfl rfl rfl (fun _ => (Zu Xob Yl (Zk (Zy rfl id) (Zn)) rfl)) (fun hc => rdepth_ok t _ D _ (hk0.grow g) hcn) (fun w14 g14 => ?_)
 have g := g.trans (g14)
 replace B1 := B1.grow (g14)
 refine Zs rfl rfl rfl (fun _ => Js (Zy rfl id) Zl) ?_
 refine Zc rfl (fun _ => Yz (Zb rfl) (Zy rfl id)) ?_
 refine Zj [(1, _, _), (2, _, _), (16, _, _)] (Za rfl (Za rfl (Za rfl (Zd _)))) ?_
 refine Zh (hK3 _ _ ?_)
 refine Zz (Zb rfl) (fun h1 => ?_) (fun h1 => ?_)
 ·replace h1 : ((!decide (t.kind = 1) || !plainB t) || decide ((50 : Int) < (depthN t : Nat))) = true := h1
  refine Zg fun K4 hK4 => ?_
  refine Zf [3] ?_
  refine Zc rfl (fun _ => Ze Zl) ?_
  refine Zj [(1, _, _), (2, _, _)] (Za rfl (Za rfl (Zd _))) ?_
  refine Zh (hK4 _ _ ?_)
  refine Yf (Yj rfl rfl ?_)
  refine ⟨congrArg Value.bool ?_, g⟩
  rw [h1]; rfl
 replace h1 : ((!decide (t.kind = 1) || !plainB t) || decide ((50 : Int) < (depthN t : Nat))) = false := h1
 refine Yq (hK2 _ _ ?_)
 refine Yi [(1, _, _), (2, _, _)] (Za rfl (Za rfl (Zd _))) ?_
 refine Zg fun K5 hK5 => ?_
 refine Zg fun K6 hK6 => ?_
 refine Zf [3] ?_
 refine Zc rfl (fun _ => Ze Zl) ?_
 refine Zh (hK6 _ _ ?_)
 refine Yp ?_
 refine Wv (fun (i : Nat) u1 => (i ≤ t.kids.length ∧ ∀ j, (h : j < t.kids.length) → j < i → declB t.kids[j] = true) ∧ G w14 u1) [(1, True, _)] (fun (i : Nat) => [(3, True, .int .i64 i)]) (fun (i : Nat) => t.kids.length - i) (0) ⟨⟨Nat.zero_le _, fun j _ hj => absurd hj (Nat.not_lt_zero j)⟩, G.refl _⟩ (Za rfl (Za rfl (Zd _))) ?_
 rintro i u1 ⟨hI1, gl1⟩
 have g := g.trans gl1
 replace B1 := B1.grow (gl1)
 refine Zg fun K7 hK7 => ?_
 refine Zg fun K8 hK8 => ?_
 refine Zf [3, 3, 0, 3, 3] ?_
 refine Zc rfl (fun _ => Zi (Zb rfl)) ?_
 refine Zc rfl (fun _ => Zm Zv (Zb rfl)) ?_
 refine Ya rfl (Zt Zq (Zb rfl) (fun _ => B1.at_ rfl)) ?_
 refine Zc rfl (fun _ => Xx Zo (Zb rfl)) ?_
 refine Zc rfl (fun _ => Vh (Zb rfl) (Zb rfl)) ?_
 refine Zj [(1, _, _), (3, _, _), (21, _, _)] (Za rfl (Za rfl (Za rfl (Zd _)))) ?_
 refine Zh (hK8 _ _ ?_)
 refine Zz (Zb rfl) (fun h2 => ?_) (fun h2 => ?_)
 ·replace h2 : i < t.kids.length := by simp only [decide_eq_true_eq] at h2; omega
  obtain ⟨hpe, p2, c2, hcell, hkid⟩ := Xw hk0 h2
  have hck := Xf h2
  refine Yq (hK7 _ _ ?_)
  refine Yi [(1, _, _), (3, _, _)] (Za rfl (Za rfl (Zd _))) ?_
  refine Zg fun K9 hK9 => ?_
  refine Yp ?_
  refine Zg fun K10 hK10 => ?_
  refine Zf [3, 0, 3, 3, 0, 1, 3] ?_
  refine Zc rfl (fun _ => Zm Zv (Zb rfl)) ?_
  refine Ya rfl (Zt Zq (Zb rfl) (fun _ => B1.at_ rfl)) ?_
  refine Zc rfl (fun _ => Zi (Zb rfl)) ?_
  refine Zc rfl (fun _ => Xc Zo (Zb rfl) (Zb rfl) (fun _ => by omega) (fun _ => hpe)) ?_
  refine Ya rfl (Yb Zr (Zb rfl) rfl (fun _ => hcell.grow g)) ?_
  refine Xe rfl (Zu go_r03_isDecl Yl (Zk (Zb rfl) (Zn)) rfl) (isdecl_ok _ _ _ D _ (hkid.grow g) (by omega)) (fun w29 g29 => ?_)
  have g := g.trans (g29)
  try have gl1 := gl1.trans (g29)
  replace B1 := B1.grow (g29)
  refine Zc rfl (fun _ => Ub (Zb rfl)) ?_
  refine Zj [(1, _, _), (3, _, _), (30, _, _)] (Za rfl (Za rfl (Za rfl (Zd _)))) ?_
  refine Zh (hK10 _ _ ?_)
  refine Zz (Zb rfl) (fun h3 => ?_) (fun h3 => ?_)
  ·(try simp only [bsimp] at h3)
   refine Zg fun K11 hK11 => ?_
   refine Zf [3] ?_
   refine Zc rfl (fun _ => Ze Zl) ?_
   refine Zj [(1, _, _), (2, _, _), (3, _, _)] (Za rfl (Za rfl (Za rfl (Zd _)))) ?_
   refine Zh (hK11 _ _ ?_)
   refine Yf (Yj rfl rfl ?_)
   refine ⟨congrArg Value.bool ?_, g⟩
   rw [h1, cond_false, eq_comm, List.all_eq_false]
   exact ⟨_, List.getElem_mem h2, by rw [← Xu h2]; simpa using h3⟩
  (try simp only [bsimp] at h3)
  refine Yq (hK9 _ _ ?_)
  refine Yi [(1, _, _), (3, _, _)] (Za rfl (Za rfl (Zd _))) ?_
  refine Zf [3, 3, 3] ?_
  refine Zc rfl (fun _ => Zi (Zb rfl)) ?_
  refine Zc rfl (fun _ => Xq (Zb rfl) Zl (fun _ => by omega)) ?_
  refine Zc rfl (fun _ => Ze (Zb rfl)) ?_
  refine Zj [(3, _, _), (1, _, _)] (Za rfl (Za rfl (Zd _))) ?_
  refine Zh (fun a ha => ?_)
  refine ⟨i + 1, ha, ⟨⟨h2, fun j h hj => ?_⟩, gl1⟩, by omega⟩
  by_cases e : j = i
  ·subst e; rw [← Xu h2]; simpa using h3
  ·exact hI1.2 j h (by omega)
 (try simp only [bsimp] at h2)
 refine Wa rfl (hK5 _ _ ?_)
 refine Yi [] (Zd _) ?_
 refine Zg fun K12 hK12 => ?_
 refine Zf [3] ?_
 refine Zc rfl (fun _ => Ze Zl) ?_
 refine Zh (hK12 _ _ ?_)
 refine Yf (Yj rfl rfl ?_)
 refine ⟨congrArg Value.bool ?_, g⟩
 rw [h1, cond_false, eq_comm, List.all_eq_true]
 intro x hx
 obtain ⟨j, hj, rfl⟩ := List.getElem_of_mem hx
 exact hI1.2 j hj (by simp only [decide_eq_false_iff_not] at h2; omega)
end Go.Rk
namespace Go.Rk
open Go Go.RowKit
def Vj (t : Nd) : Bool := decide (t.kind = 24) || decide (t.kind = 25)
def lenQ (a b : Nd) : Bool := decide ((a.kids.length : Int) = b.kids.length)
def Qca (a b : Nd) : Bool := ((decide (a.kind = b.kind) && decide (a.text = b.text)) && lenQ a b) && (!Vj a || decide (a.num = b.num))
theorem Vqb (a b : Nd) : (!Qca a b) = (((!decide (a.kind = b.kind) || !decide (a.text = b.text)) || !lenQ a b) || (Vj a && !decide (a.num = b.num))) := by
 unfold Qca
 cases decide (a.kind = b.kind) <;> cases decide (a.text = b.text) <;> cases lenQ a b <;> cases Vj a <;> cases decide (a.num = b.num) <;> rfl
def cmpT (q : Nd → Nd → Bool) (a : Nd) : Nd → Bool := para (fun a l b => q a b && (List.range a.kids.length).all fun i => (l.getD i fun _ => false) (kidAt b i)) a
theorem all_range {n : Nat} {f h : Nat → Bool} (e : ∀ i, i < n → f i = h i) : (List.range n).all f = (List.range n).all h := by
 rw [Bool.eq_iff_iff, List.all_eq_true, List.all_eq_true]
 exact ⟨fun k i hi => (e i (List.mem_range.1 hi)) ▸ k i hi, fun k i hi => (e i (List.mem_range.1 hi)).symm ▸ k i hi⟩
theorem cmpT_eq (q : Nd → Nd → Bool) (a b : Nd) : cmpT q a b = (q a b && (List.range a.kids.length).all fun i => cmpT q (kidAt a i) (kidAt b i)) := by
 rw [cmpT, Xfa]
 refine congrArg (q a b && ·) (all_range fun i hi => ?_)
 have : (a.kids.map (cmpT q)).getD i (fun _ => false) = cmpT q (kidAt a i) := by
  rw [Xu hi]; simp [List.getD_eq_getElem?_getD, List.getElem?_eq_getElem hi]
 exact congrFun this (kidAt b i)
def eqB (a b : Nd) : Bool := cmpT Qca a b
theorem eqB_eq (a b : Nd) : eqB a b = (Qca a b && (List.range a.kids.length).all fun i => eqB (kidAt a i) (kidAt b i)) := cmpT_eq Qca a b
theorem lenQ_iff {a b : Nd} : lenQ a b = true ↔ a.kids.length = b.kids.length := by rw [lenQ, decide_eq_true_eq]; omega
theorem eqLoc_len {a b : Nd} (h : Qca a b = true) : a.kids.length = b.kids.length := by
 unfold Qca at h; rw [Bool.and_eq_true, Bool.and_eq_true] at h; exact lenQ_iff.1 h.1.2
def tyQB (a b : Ty) : Bool := decide (a.kind = b.kind) && (decide (a.name = b.name) && true)
def smLoc (a b : Nd) : Bool := ((((((decide (a.kind = b.kind) && decide (a.text = b.text)) && decide (a.num = b.num)) && decide (a.pos = b.pos)) && tyQB a.ty b.ty) && decide (a.ref = b.ref)) && decide (a.up = b.up)) && lenQ a b
def smB (a b : Nd) : Bool := cmpT smLoc a b
end Go.Rk
namespace Go.Rk
open Go Go.RowKit
set_option linter.unusedVariables false
def numS (t : Nd) : Int := bif Vj t then t.num else 0
def stripT (t : Nd) : Nd := para (fun t l => .mk t.kind t.text (numS t) 0 l ty0 0 0) t
theorem Um (t : Nd) : stripT t = .mk t.kind t.text (numS t) 0 (t.kids.map stripT) ty0 0 0 := Xfa _ t
def plainT (t : Nd) : Nd := para (fun t l => .mk t.kind t.text (numS t) t.pos l ty0 0 0) t
theorem Vrb (t : Nd) : (stripT t).kids.length = t.kids.length := by rw [Um, Nd.kids, List.length_map]
theorem Umb (t : Nd) (v : Value) : ndCells (stripT t) v = [.int .i64 t.kind, Str t.text, .int .i64 (numS t), .int .i64 0, v, .int .i64 0, Str [], .int .i64 0, .int .i64 0] := by rw [Um]; rfl
theorem Zza (t : Nd) : (stripT t).kids = t.kids.map stripT := by rw [Um]; rfl
theorem retNd_kd {t : Nd} {base : Nat} {v : Value} {w : World} (h : Kd w (fun b => base ≤ b) t.kids v) : RetNd t base (ndV t v) w := by
 obtain ⟨p, c, rfl, h2⟩ := h
 exact ⟨p, c, rfl, p, c, rfl, h2⟩
end Go.Rk
namespace Go.Rk
open Go Go.RowKit
def RetD (D : Nat → Prop) (t : Nd) (r : Value) (w : World) : Prop := ∃ p c, r = ndV t (.slice p t.kids.length c) ∧ Kd w D t.kids (.slice p t.kids.length c)
theorem RetD.grow {D : Nat → Prop} {t : Nd} {r : Value} {w w' : World} (h : RetD D t r w) (g : G w w') : RetD D t r w' := by
 obtain ⟨p, c, e, k⟩ := h
 exact ⟨p, c, e, k.grow g⟩
theorem RetD.mono {D D' : Nat → Prop} {t : Nd} {r : Value} {w : World} (h : RetD D t r w) (hD : ∀ b, D b → D' b) : RetD D' t r w := by
 obtain ⟨p, c, e, k⟩ := h
 exact ⟨p, c, e, k.mono fun b hb _ => hD b hb⟩
@[reducible] def GE (n : Nat) : Nat → Prop := fun b => n ≤ b
theorem Xaa {w : World} {D : Nat → Prop} {t : Nd} {v : Value} {b : Nat} {e : TypeId} (hb : D b) (h : Blk w b e (ndCells t v)) (hk : Kd w D t.kids v) : Kd w D [t] (.slice (some ⟨b, 0, none⟩) 1 1) := Yza hb h.row (Uv hk) (Nat.le_refl _)
theorem OwnK.low {e : TypeId} {D : Nat → Prop} {base : Nat} {w : World} {ks : List Nd} {s : Value} (h : OwnK e D base w ks s) : OwnK e (fun b => D b ∧ b < w.heap.size) base w ks s := by
 have hlt := h.lt
 obtain ⟨xs, h1, h2, h3⟩ := h
 exact ⟨xs, h1, h2.lt.mono fun b hb _ => ⟨⟨hb.1.1, hb.2⟩, hb.1.2⟩, fun b hb => ⟨h3 b hb, hlt b hb⟩⟩
theorem OwnK.mono {e : TypeId} {D D' : Nat → Prop} {base : Nat} {w : World} {ks : List Nd} {s : Value} (h : OwnK e D base w ks s) (hD : ∀ b, D b → D' b) : OwnK e D' base w ks s := by
 obtain ⟨xs, h1, h2, h3⟩ := h
 exact ⟨xs, h1, h2.mono fun b hb _ => ⟨hD b hb.1, hb.2⟩, fun b hb => hD b (h3 b hb)⟩
end Go.Rk
namespace Go.Rk
open Go Go.RowKit
set_option linter.unusedVariables false
theorem sequal_ok : ∀ (a : Nd) (va : Value) (D : Nat → Prop) (b : Nd) (vb : Value) (D' : Nat → Prop) (w : World), Kd w D a.kids va → Kd w D' b.kids vb → count a ≤ 1000000 → Ret PP Usb #[ndV a va, ndV b vb] w fun r w' => r = .bool (eqB a b) ∧ G w w' := by
 refine Nd.ind fun a ih va D b vb D' w hka hkb hcn => ?_
 obtain ⟨pa, ca, rfl, hcapa, hksa⟩ := hka
 have hka0 : Kd w D a.kids (.slice pa a.kids.length ca) := ⟨pa, ca, rfl, hcapa, hksa⟩
 obtain ⟨pb', cb, rfl, hcapb, hksb⟩ := hkb
 have hkb0 : Kd w D' b.kids (.slice pb' b.kids.length cb) := ⟨pb', cb, rfl, hcapb, hksb⟩
 have g := G.refl w
 have hln := Qm a
 rw [eqB_eq]
 refine Ym (m := 61) Xkb rfl rfl [(0, True, _), (1, True, _)] (Za rfl (Za rfl (Zd _))) ?_
 refine Zg fun K1 hK1 => ?_
 refine Zf [1, 1, 3] ?_
 refine Wd rfl (Zb rfl) rfl ?_
 intro b2 w2 N2
 have l2 := N2.ge g
 have g := g.trans (N2.g)
 have B2 := N2.blk
 refine Wd rfl (Zb rfl) rfl ?_
 intro b3 w3 N3
 have x3_2 := N3.ne B2
 have l3 := N3.ge g
 have g := g.trans (N3.g)
 replace B2 := B2.grow (N3.g)
 have B3 := N3.blk
 refine Zc rfl (fun _ => Ze Zl) ?_
 refine Zj [(2, _, _), (3, _, _), (4, _, _)] (Za rfl (Za rfl (Za rfl (Zd _)))) ?_
 refine Zh (hK1 _ _ ?_)
 refine Zg fun K2 hK2 => ?_
 refine Zg fun K3 hK3 => ?_
 refine Zf [3, 0, 3, 0, 3, 3, 3, 0, 3, 0, 3, 3, 3, 3, 0, 3, 3, 0, 3, 3, 3] ?_
 refine Zc rfl (fun _ => Zm Ys (Zb rfl)) ?_
 refine Ya rfl (Zt Yy (Zb rfl) (fun _ => B2.at_ rfl)) ?_
 refine Zc rfl (fun _ => Zm Ys (Zb rfl)) ?_
 refine Ya rfl (Zt Yy (Zb rfl) (fun _ => B3.at_ rfl)) ?_
 refine Zc rfl (fun _ => Qi (Zb rfl) (Zb rfl)) ?_
 refine Zc rfl (fun _ => Zi (Zb rfl)) ?_
 refine Zs rfl rfl rfl (fun _ => Zm Yw (Zb rfl)) ?_
 refine Yr rfl rfl rfl (Zt Yt (Zy rfl id) (fun _ => B2.at_ rfl)) ?_
 refine Zs rfl rfl rfl (fun _ => Zm Yw (Zb rfl)) ?_
 refine Yr rfl rfl rfl (Zt Yt (Zy rfl id) (fun _ => B3.at_ rfl)) ?_
 refine Zs rfl rfl rfl (fun _ => Jmb (Zy rfl id) (Zy rfl id)) ?_
 refine Zc rfl (fun _ => Yz (Zb rfl) (Zy rfl id)) ?_
 refine Zc rfl (fun _ => Zi (Zb rfl)) ?_
 refine Zs rfl rfl rfl (fun _ => Zm Zv (Zb rfl)) ?_
 refine Yr rfl rfl rfl (Zt Zq (Zy rfl id) (fun _ => B2.at_ rfl)) ?_
 refine Zs rfl rfl rfl (fun _ => Xx Zo (Zy rfl id)) ?_
 refine Zs rfl rfl rfl (fun _ => Zm Zv (Zb rfl)) ?_
 refine Yr rfl rfl rfl (Zt Zq (Zy rfl id) (fun _ => B3.at_ rfl)) ?_
 refine Zs rfl rfl rfl (fun _ => Xx Zo (Zy rfl id)) ?_
 refine Zs rfl rfl rfl (fun _ => Qi (Zy rfl id) (Zy rfl id)) ?_
 refine Zc rfl (fun _ => Yz (Zb rfl) (Zy rfl id)) ?_
 refine Zj [(2, _, _), (3, _, _), (4, _, _), (26, _, _)] (Za rfl (Za rfl (Za rfl (Za rfl (Zd _))))) ?_
 refine Zh (hK3 _ _ ?_)
 refine Zz (Zb rfl) (fun h1 => ?_) (fun h1 => ?_)
 ·replace h1 : ((!decide (a.kind = b.kind) || !decide (a.text = b.text)) || !lenQ a b) = true := h1
  have he : Qca a b = false := by have := Vqb a b; rw [h1] at this; simpa using this
  refine Zg fun K4 hK4 => ?_
  refine Zf [3] ?_
  refine Zc rfl (fun _ => Ze Zl) ?_
  refine Zj [(2, _, _), (3, _, _), (4, _, _)] (Za rfl (Za rfl (Za rfl (Zd _)))) ?_
  refine Zh (hK4 _ _ ?_)
  refine Yf (Yj rfl rfl ?_)
  rw [he]; exact ⟨rfl, g⟩
 replace h1 : ((!decide (a.kind = b.kind) || !decide (a.text = b.text)) || !lenQ a b) = false := h1
 have hl : a.kids.length = b.kids.length := by
  have := (Bool.or_eq_false_iff.1 h1).2
  exact lenQ_iff.1 (by simpa using this)
 refine Yq (hK2 _ _ ?_)
 refine Yi [(2, _, _), (3, _, _), (4, _, _)] (Za rfl (Za rfl (Za rfl (Zd _)))) ?_
 refine Zg fun K5 hK5 => ?_
 refine Zg fun K6 hK6 => ?_
 refine Zf [3, 0, 3, 3, 3, 0, 3, 3, 3, 3, 0, 3, 0, 3, 3] ?_
 refine Zc rfl (fun _ => Zm Ys (Zb rfl)) ?_
 refine Ya rfl (Zt Yy (Zb rfl) (fun _ => B2.at_ rfl)) ?_
 refine Zc rfl (fun _ => Yg (Zb rfl) Zl) ?_
 refine Zc rfl (fun _ => Zi (Zb rfl)) ?_
 refine Zs rfl rfl rfl (fun _ => Zm Ys (Zb rfl)) ?_
 refine Yr rfl rfl rfl (Zt Yy (Zy rfl id) (fun _ => B2.at_ rfl)) ?_
 refine Zs rfl rfl rfl (fun _ => Yg (Zy rfl id) Zl) ?_
 refine Zc rfl (fun _ => Yz (Zb rfl) (Zy rfl id)) ?_
 refine Zc rfl (fun _ => Zi (Zb rfl)) ?_
 refine Zs rfl rfl rfl (fun _ => Zm Wy (Zb rfl)) ?_
 refine Yr rfl rfl rfl (Zt Yy (Zy rfl id) (fun _ => B2.at_ rfl)) ?_
 refine Zs rfl rfl rfl (fun _ => Zm Wy (Zb rfl)) ?_
 refine Yr rfl rfl rfl (Zt Yy (Zy rfl id) (fun _ => B3.at_ rfl)) ?_
 refine Zs rfl rfl rfl (fun _ => Qi (Zy rfl id) (Zy rfl id)) ?_
 refine Zc rfl (fun _ => Ye (Zb rfl) (Zy rfl id)) ?_
 refine Zj [(2, _, _), (3, _, _), (4, _, _), (41, _, _)] (Za rfl (Za rfl (Za rfl (Za rfl (Zd _))))) ?_
 refine Zh (hK6 _ _ ?_)
 refine Zz (Zb rfl) (fun h2 => ?_) (fun h2 => ?_)
 ·replace h2 : (Vj a && !decide (a.num = b.num)) = true := h2
  have he : Qca a b = false := by have := Vqb a b; rw [h2] at this; simpa using this
  refine Zg fun K7 hK7 => ?_
  refine Zf [3] ?_
  refine Zc rfl (fun _ => Ze Zl) ?_
  refine Zj [(2, _, _), (3, _, _), (4, _, _)] (Za rfl (Za rfl (Za rfl (Zd _)))) ?_
  refine Zh (hK7 _ _ ?_)
  refine Yf (Yj rfl rfl ?_)
  rw [he]; exact ⟨rfl, g⟩
 replace h2 : (Vj a && !decide (a.num = b.num)) = false := h2
 have he : Qca a b = true := by have := Vqb a b; rw [h1, h2] at this; simpa using this
 refine Yq (hK5 _ _ ?_)
 refine Yi [(2, _, _), (3, _, _), (4, _, _)] (Za rfl (Za rfl (Za rfl (Zd _)))) ?_
 refine Zg fun K8 hK8 => ?_
 refine Zg fun K9 hK9 => ?_
 refine Zf [3, 0, 3, 3] ?_
 refine Zc rfl (fun _ => Zm Zv (Zb rfl)) ?_
 refine Ya rfl (Zt Zq (Zb rfl) (fun _ => B2.at_ rfl)) ?_
 refine Zc rfl (fun _ => Xx Zo (Zb rfl)) ?_
 refine Zc rfl (fun _ => Zi Zl) ?_
 refine Zj [(2, _, _), (3, _, _), (4, _, _), (44, _, _), (45, _, _)] (Za rfl (Za rfl (Za rfl (Za rfl (Za rfl (Zd _)))))) ?_
 refine Zh (hK9 _ _ ?_)
 refine Yp ?_
 refine Wv (fun (i : Nat) u1 => (i ≤ a.kids.length ∧ ∀ j, j < i → eqB (kidAt a j) (kidAt b j) = true) ∧ G w3 u1) [(2, True, _), (3, True, _), (44, True, _)] (fun (i : Nat) => [(45, True, .int .i64 i)]) (fun (i : Nat) => a.kids.length - i) (0) ⟨⟨Nat.zero_le _, fun j hj => absurd hj (Nat.not_lt_zero j)⟩, G.refl _⟩ (Za rfl (Za rfl (Za rfl (Za rfl (Zd _))))) ?_
 rintro i u1 ⟨hI1, gl1⟩
 have g := g.trans gl1
 replace B2 := B2.grow (gl1)
 replace B3 := B3.grow (gl1)
 refine Zg fun K10 hK10 => ?_
 refine Zf [3] ?_
 refine Zc rfl (fun _ => Vh (Zb rfl) (Zb rfl)) ?_
 refine Zh (hK10 _ _ ?_)
 refine Yi [(2, _, _), (3, _, _), (44, _, _), (45, _, _), (46, _, _)] (Za rfl (Za rfl (Za rfl (Za rfl (Za rfl (Zd _)))))) ?_
 refine Zg fun K11 hK11 => ?_
 refine Zz (Zb rfl) (fun h3 => ?_) (fun h3 => ?_)
 ·replace h3 : i < a.kids.length := by simp only [decide_eq_true_eq] at h3; omega
  obtain ⟨hpa, p1, c1, hcell1, hkid1⟩ := Xw hka0 h3
  obtain ⟨hpb, p2, c2, hcell2, hkid2⟩ := Xw hkb0 (i := i) (by omega)
  have hck := Xf h3
  refine Yq (hK11 _ _ ?_)
  refine Yi [(2, _, _), (3, _, _), (44, _, _), (45, _, _)] (Za rfl (Za rfl (Za rfl (Za rfl (Zd _))))) ?_
  refine Zg fun K12 hK12 => ?_
  refine Yp ?_
  refine Zg fun K13 hK13 => ?_
  refine Zf [3, 3] ?_
  refine Zc rfl (fun _ => Zi (Zb rfl)) ?_
  refine Zc rfl (fun _ => Ze (Zb rfl)) ?_
  refine Zj [(2, _, _), (3, _, _), (5, _, _), (44, _, _), (45, _, _)] (Za rfl (Za rfl (Za rfl (Za rfl (Za rfl (Zd _)))))) ?_
  refine Zh (hK13 _ _ ?_)
  refine Zg fun K14 hK14 => ?_
  refine Vm [3, 0, 3, 3, 0, 3, 0, 3, 3, 0, 1, 3] [true, true, true, true, true, true, true, true, true, true, true, true] [0, 1, 0, 7, 15, 0, 32, 0, 224, 480, 1023, 2047] mix (by kernel_rfl) ?_
  have g := g.trans (G.drew _)
  try have gl1 := gl1.trans (G.drew _)
  replace B2 := B2.grow (G.drew _)
  replace B3 := B3.grow (G.drew _)
  refine Zc rfl (fun _ => Zm Zv (Zb rfl)) ?_
  refine Ya rfl (Zt Zq (Zb rfl) (fun _ => B2.at_ rfl)) ?_
  refine Zc rfl (fun _ => Zi (Zb rfl)) ?_
  refine Zc rfl (fun _ => Xc Zo (Zb rfl) (Zb rfl) (fun _ => by omega) (fun _ => hpa)) ?_
  refine Ya rfl (Yb Zr (Zb rfl) rfl (fun _ => hcell1.grow g)) ?_
  refine Zc rfl (fun _ => Zm Zv (Zb rfl)) ?_
  refine Ya rfl (Zt Zq (Zb rfl) (fun _ => B3.at_ rfl)) ?_
  refine Zc rfl (fun _ => Zi (Zb rfl)) ?_
  refine Zc rfl (fun _ => Xc Zo (Zb rfl) (Zb rfl) (fun _ => by omega) (fun _ => hpb)) ?_
  refine Ya rfl (Yb Zr (Zb rfl) rfl (fun _ => hcell2.grow g)) ?_
  refine Xe rfl (Zu Ysa Yl (Zk (Zb rfl) (Zk (Zb rfl) (Zn))) rfl) (ih _ (Xu h3 ▸ List.getElem_mem h3) _ D _ _ D' _ (hkid1.grow g) (hkid2.grow g) (by omega)) (fun w58 g58 => ?_)
  have g := g.trans (g58)
  try have gl1 := gl1.trans (g58)
  replace B2 := B2.grow (g58)
  replace B3 := B3.grow (g58)
  refine Zc rfl (fun _ => Ub (Zb rfl)) ?_
  refine Zj [(2, _, _), (3, _, _), (44, _, _), (45, _, _), (59, _, _)] (Za rfl (Za rfl (Za rfl (Za rfl (Za rfl (Zd _)))))) ?_
  refine Zh (hK14 _ _ ?_)
  refine Zz (Zb rfl) (fun h4 => ?_) (fun h4 => ?_)
  ·(try simp only [bsimp] at h4)
   refine Zg fun K15 hK15 => ?_
   refine Zf [3] ?_
   refine Zc rfl (fun _ => Ze Zl) ?_
   refine Zj [(2, _, _), (3, _, _), (4, _, _), (44, _, _), (45, _, _)] (Za rfl (Za rfl (Za rfl (Za rfl (Za rfl (Zd _)))))) ?_
   refine Zh (hK15 _ _ ?_)
   refine Yf (Yj rfl rfl ?_)
   refine ⟨congrArg Value.bool ?_, g⟩
   rw [he, Bool.true_and, eq_comm, List.all_eq_false]
   exact ⟨i, List.mem_range.2 h3, by simpa using h4⟩
  (try simp only [bsimp] at h4)
  refine Yq (hK12 _ _ ?_)
  refine Yi [(2, _, _), (3, _, _), (44, _, _), (45, _, _)] (Za rfl (Za rfl (Za rfl (Za rfl (Zd _))))) ?_
  refine Zf [3, 3] ?_
  refine Zc rfl (fun _ => Xq (Zb rfl) Zl (fun _ => by omega)) ?_
  refine Zc rfl (fun _ => Zi (Zb rfl)) ?_
  refine Zj [(45, _, _), (2, _, _), (3, _, _), (44, _, _)] (Za rfl (Za rfl (Za rfl (Za rfl (Zd _))))) ?_
  refine Zh (fun a ha => ?_)
  refine ⟨i + 1, ha, ⟨⟨h3, fun j hj => ?_⟩, gl1⟩, by omega⟩
  by_cases e : j = i
  ·subst e; simpa using h4
  ·exact hI1.2 j (by omega)
 (try simp only [bsimp] at h3)
 refine Wa rfl (hK8 _ _ ?_)
 refine Yi [] (Zd _) ?_
 refine Zg fun K16 hK16 => ?_
 refine Zf [3] ?_
 refine Zc rfl (fun _ => Ze Zl) ?_
 refine Zh (hK16 _ _ ?_)
 refine Yf (Yj rfl rfl ?_)
 refine ⟨congrArg Value.bool ?_, g⟩
 rw [he, Bool.true_and, eq_comm, List.all_eq_true]
 intro j hj
 exact hI1.2 j (by have := List.mem_range.1 hj; simp only [decide_eq_false_iff_not] at h3; omega)
theorem sstrip_ok : ∀ (t : Nd) (v : Value) (D : Nat → Prop) (w : World), Kd w D t.kids v → t.kids.length ≤ 1000000 → count t ≤ 1000000 → Ret PP Uwb #[ndV t v] w fun r w' => RetNd (stripT t) w.heap.size r w' ∧ G w w' := by
 refine Nd.ind fun t ih v D w hk hlen hc => ?_
 obtain ⟨p, c, rfl, hcap, hks⟩ := hk
 have g := G.refl w
 refine Ym (m := 38) Xnb rfl rfl [(0, True, _)] (Za rfl (Zd _)) ?_
 refine Zg fun K1 hK1 => ?_
 refine Zf [1, 1] ?_
 refine Wd rfl (Zb rfl) rfl ?_
 intro b1 w1 N1
 have l1 := N1.ge g
 have g := g.trans (N1.g)
 try have hO := hO.grow (N1.g)
 have B1 := N1.blk
 refine Xr rfl Yo rfl ?_
 intro b2 w2 N2
 have x2_1 := N2.ne B1
 have l2 := N2.ge g
 have g := g.trans (N2.g)
 replace B1 := B1.grow (N2.g)
 try have hO := hO.grow (N2.g)
 have B2 := N2.blk
 refine Zj [(1, _, _), (2, _, _)] (Za rfl (Za rfl (Zd _))) ?_
 refine Zh (hK1 _ _ ?_)
 refine Zg fun K2 hK2 => ?_
 refine Zf [3, 0, 3, 0, 3, 1, 2] ?_
 refine Zc rfl (fun _ => Zm Ys (Zb rfl)) ?_
 refine Ya rfl (Zt Yy (Zb rfl) (fun _ => B1.at_ rfl)) ?_
 refine Zc rfl (fun _ => Zm Yw (Zb rfl)) ?_
 refine Ya rfl (Zt Yt (Zb rfl) (fun _ => B1.at_ rfl)) ?_
 refine Zc rfl (fun _ => We [_, _, _, _, _, _, _, _, _] Yo rfl Wh (Zp (Zb rfl) (Zp (Zb rfl) (Yc))) rfl) ?_
 refine Xr rfl Yo rfl ?_
 intro b3 w3 N3
 have x3_1 := N3.ne B1
 have x3_2 := N3.ne B2
 have l3 := N3.ge g
 have g := g.trans (N3.g)
 replace B1 := B1.grow (N3.g)
 replace B2 := B2.grow (N3.g)
 try have hO := hO.grow (N3.g)
 have B3 := N3.blk
 refine Yu rfl Xi (Zb rfl) (Zb rfl) rfl rfl B3 rfl rfl ?_
 intro wS1 hgS1 hzS1
 clear B3
 intro B3
 replace B1 := B1.keep hgS1 (by intro h; injection h with h; first | exact x3_1 h.symm | exact x1_3 h | omega)
 replace B2 := B2.keep hgS1 (by intro h; injection h with h; first | exact x3_2 h.symm | exact x2_3 h | omega)
 have g := Xo g hgS1 (by intro k hk; injection hk with hk; omega)
 refine Zj [(1, _, _), (2, _, _), (3, _, _)] (Za rfl (Za rfl (Za rfl (Zd _)))) ?_
 refine Zh (hK2 _ _ ?_)
 refine Zg fun K3 hK3 => ?_
 refine Zg fun K4 hK4 => ?_
 refine Zf [3, 0, 3, 3, 3, 0, 3, 3] ?_
 refine Zc rfl (fun _ => Zm Ys (Zb rfl)) ?_
 refine Ya rfl (Zt Yy (Zb rfl) (fun _ => B1.at_ rfl)) ?_
 refine Zc rfl (fun _ => Yg (Zb rfl) Zl) ?_
 refine Zc rfl (fun _ => Zi (Zb rfl)) ?_
 refine Zs rfl rfl rfl (fun _ => Zm Ys (Zb rfl)) ?_
 refine Yr rfl rfl rfl (Zt Yy (Zy rfl id) (fun _ => B1.at_ rfl)) ?_
 refine Zs rfl rfl rfl (fun _ => Yg (Zy rfl id) Zl) ?_
 refine Zc rfl (fun _ => Yz (Zb rfl) (Zy rfl id)) ?_
 refine Zj [(1, _, _), (2, _, _), (3, _, _), (18, _, _)] (Za rfl (Za rfl (Za rfl (Za rfl (Zd _))))) ?_
 refine Zh (hK4 _ _ ?_)
 refine Zz (Zb rfl) (fun h1 => ?_) (fun h1 => ?_)
 ·replace h1 : Vj t = true := h1
  refine Zf [3, 0, 3, 2] ?_
  refine Zc rfl (fun _ => Zm Wy (Zb rfl)) ?_
  refine Ya rfl (Zt Yy (Zb rfl) (fun _ => B1.at_ rfl)) ?_
  refine Zc rfl (fun _ => Zm Wy (Zb rfl)) ?_
  refine Jg rfl Yxa (Zb rfl) (Zb rfl) rfl B3 rfl rfl ?_
  intro wS2 hgS2 hzS2
  clear B3
  intro B3
  replace B1 := B1.keep hgS2 (by intro h; injection h with h; first | exact x3_1 h.symm | exact x1_3 h | omega)
  replace B2 := B2.keep hgS2 (by intro h; injection h with h; first | exact x3_2 h.symm | exact x2_3 h | omega)
  have g := Xo g hgS2 (by intro k hk; injection hk with hk; omega)
  refine Zj [(1, _, _), (2, _, _), (3, _, _)] (Za rfl (Za rfl (Za rfl (Zd _)))) ?_
  refine Zh (hK3 _ _ ?_)
  refine Zg fun K5 hK5 => ?_
  refine Zg fun K6 hK6 => ?_
  refine Zf [3, 0, 3, 3] ?_
  replace B3 : Blk wS2 b3 Vy (ndCells (stripT t) (.slice none 0 0)) := by
   have h := B3
   rw [Umb, numS, h1]; exact h
  refine Zc rfl (fun _ => Zm Zv (Zb rfl)) ?_
  refine Ya rfl (Zt Zq (Zb rfl) (fun _ => B1.at_ rfl)) ?_
  refine Zc rfl (fun _ => Xx Zo (Zb rfl)) ?_
  refine Zc rfl (fun _ => Zi Zl) ?_
  refine Zj [(2, _, _), (3, _, _), (23, _, _), (24, _, _), (25, _, _)] (Za rfl (Za rfl (Za rfl (Za rfl (Za rfl (Zd _)))))) ?_
  refine Zh (hK6 _ _ ?_)
  refine Yp ?_
  refine sc_loop3 (fun (i : Nat) u1 => (i ≤ t.kids.length ∧ ∃ s, Blk u1 b3 Vy (ndCells (stripT t) s) ∧ OwnK Vy (Dx w.heap.size [b1, b2, b3]) w.heap.size u1 ((t.kids.take i).map stripT) s) ∧ G w u1) _ [(2, True, _), (3, True, _), (23, True, _), (24, True, _)] (fun (i : Nat) => [(25, True, .int .i64 i)]) (fun (i : Nat) => t.kids.length - i) (0) ⟨⟨Nat.zero_le _, _, B3, ownK_nil _ _ _ _⟩, g⟩ (Wra (blkE B1) (Wra (blkE B2) (Jcb _))) (Za rfl (Za rfl (Za rfl (Za rfl (Za rfl (Zd _)))))) ?_
  clear B1 B2 B3
  rintro i u1 ⟨hI1, gl1⟩ ⟨B1, B2, _⟩
  replace B1 : Blk _ _ _ _ := B1
  replace B2 : Blk _ _ _ _ := B2
  have g := gl1
  obtain ⟨hi, s, B3, hO⟩ := hI1
  obtain ⟨sa, sc, rfl⟩ := hO.slice
  refine Zg fun K7 hK7 => ?_
  refine Zf [3] ?_
  refine Zc rfl (fun _ => Vh (Zb rfl) (Zb rfl)) ?_
  refine Zh (hK7 _ _ ?_)
  refine Yi [(2, _, _), (3, _, _), (23, _, _), (24, _, _), (25, _, _), (26, _, _)] (Za rfl (Za rfl (Za rfl (Za rfl (Za rfl (Za rfl (Zd _))))))) ?_
  refine Zg fun K8 hK8 => ?_
  refine Zz (Zb rfl) (fun h2 => ?_) (fun h2 => ?_)
  ·replace h2 : i < t.kids.length := by simp only [decide_eq_true_eq] at h2; omega
   obtain ⟨b, o, rfl, hD, xs, hR, hX⟩ := hks (by omega)
   obtain ⟨p', c', hcell, hkid⟩ := Yna hR hX h2
   have hck := Ju h2
   have hkl := Qm t.kids[i]
   have hu := g.size
   have hO := hO.low
   refine Yq (hK8 _ _ ?_)
   refine Yi [(2, _, _), (3, _, _), (23, _, _), (24, _, _), (25, _, _)] (Za rfl (Za rfl (Za rfl (Za rfl (Za rfl (Zd _)))))) ?_
   refine Zg fun K9 hK9 => ?_
   refine Yp ?_
   refine Zg fun K10 hK10 => ?_
   refine Zf [3, 0, 1, 2] ?_
   refine Zc rfl (fun _ => Uc Zo (Zb rfl) (Zb rfl) (fun _ => by omega)) ?_
   refine Ya rfl (Yb Zr (Zb rfl) rfl (fun _ => hcell.grow g)) ?_
   refine Xr rfl Yo rfl ?_
   intro b5 w5 N5
   have x5_1 := N5.ne B1
   have x5_2 := N5.ne B2
   have x5_3 := N5.ne B3
   have l5 := N5.ge g
   have g := g.trans (N5.g)
   replace B1 := B1.grow (N5.g)
   replace B2 := B2.grow (N5.g)
   replace B3 := B3.grow (N5.g)
   try have hO := hO.grow (N5.g)
   have B5 := N5.blk
   refine Yu rfl Xi (Zb rfl) (Zb rfl) rfl rfl B5 rfl rfl ?_
   intro wS3 hgS3 hzS3
   clear B5
   intro B5
   replace B1 := B1.keep hgS3 (by intro h; injection h with h; first | exact x5_1 h.symm | exact x1_5 h | omega)
   replace B2 := B2.keep hgS3 (by intro h; injection h with h; first | exact x5_2 h.symm | exact x2_5 h | omega)
   replace B3 := B3.keep hgS3 (by intro h; injection h with h; first | exact x5_3 h.symm | exact x3_5 h | omega)
   have g := Xo g hgS3 (by intro k hk; injection hk with hk; omega)
   have hO := (hO.keep hgS3 (fun h => by have := N5.ge (G.refl _); have := h.2; omega)).mono fun b h => h.1
   refine Zj [(2, _, _), (3, _, _), (5, _, _), (23, _, _), (24, _, _), (25, _, _)] (Za rfl (Za rfl (Za rfl (Za rfl (Za rfl (Za rfl (Zd _))))))) ?_
   refine Zh (hK10 _ _ ?_)
   refine Vm [3, 0, 0, 1, 1, 2, 3, 2] [true, true, true, true, true, true, true, true] [0, 1, 0, 4, 12, 31, 63, 127] mix (by kernel_rfl) ?_
   have g := g.trans (G.drew _)
   replace B1 := B1.grow (G.drew _)
   replace B2 := B2.grow (G.drew _)
   replace B3 := B3.grow (G.drew _)
   replace B5 := B5.grow (G.drew _)
   try have hO := hO.grow (G.drew _)
   have hB1lt := B1.lt
   have hB2lt := B2.lt
   have hB3lt := B3.lt
   have hOlt := hO.lt
   have hdz : wS3.drew.drew.heap.size = wS3.drew.heap.size := rfl
   refine Zc rfl (fun _ => Zm Zv (Zb rfl)) ?_
   refine Ya rfl (Zt Zq (Zb rfl) (fun _ => B3.at_ rfl)) ?_
   refine Ya rfl (Yb Zr (Zb rfl) rfl (fun _ => B5.row)) ?_
   refine Yd rfl (Zu Yua Yl (Zk (Zb rfl) (Zn)) rfl) (ih _ (List.getElem_mem h2) _ _ _ (hkid.grow g) (by omega) (by omega)) ?_
   rintro v32 w32 ⟨⟨p2, c2, rfl, hk2⟩, g32⟩
   refine ⟨fun _ => g32, ?_⟩
   have g := g.trans g32
   replace B1 := B1.grow (g32)
   replace B2 := B2.grow (g32)
   replace B3 := B3.grow (g32)
   replace B5 := B5.grow (g32)
   try have hO := hO.grow (g32)
   refine Zx [_, _, _, _, _, _, _, _, _] rfl Zo Yo (Zp (Zb rfl) (Yc)) rfl rfl ?_
   intro b33 w33 N33
   have x33_1 := N33.ne B1
   have x33_2 := N33.ne B2
   have x33_3 := N33.ne B3
   have x33_5 := N33.ne B5
   have l33 := N33.ge g
   have g := g.trans (N33.g)
   replace B1 := B1.grow (N33.g)
   replace B2 := B2.grow (N33.g)
   replace B3 := B3.grow (N33.g)
   replace B5 := B5.grow (N33.g)
   try have hO := hO.grow (N33.g)
   have B33 := N33.blk
   have hk2 := hk2.grow N33.g
   have hOo := hO
   refine Yfc rfl Zo Yo rfl (Zb rfl) hO (Zb rfl) rfl B33.row (Uv (hk2.mono fun k hk _ => ⟨⟨by have hk : _ ≤ k := hk; omega, by have hk : _ ≤ k := hk; simp; omega⟩, fun he => by have := hOlt k he.symm; have hk : _ ≤ k := hk; omega⟩)) (by simp; omega) (by have := g.size; omega) ⟨by have := g.size; omega, by have q1 := B1.lt; have q2 := B2.lt; have q3 := B3.lt; simp; omega⟩ ?_
   intro a34 c34 w34 hO hg34
   replace B1 := B1.keep hg34 (hOo.ne (by simp [Dx]))
   replace B2 := B2.keep hg34 (hOo.ne (by simp [Dx]))
   replace B3 := B3.keep hg34 (hOo.ne (by simp [Dx]))
   have g := Xo g hg34 (fun k hk => hOo.ge k hk)
   refine Zc rfl (fun _ => Zm Zv (Zb rfl)) ?_
   refine Jg rfl Jha (Zb rfl) (Zb rfl) rfl B3 rfl rfl ?_
   intro wS4 hgS4 hzS4
   clear B3
   intro B3
   replace B1 := B1.keep hgS4 (by intro h; injection h with h; first | exact x3_1 h.symm | exact x1_3 h | omega)
   replace B2 := B2.keep hgS4 (by intro h; injection h with h; first | exact x3_2 h.symm | exact x2_3 h | omega)
   have g := Xo g hgS4 (by intro k hk; injection hk with hk; omega)
   have hO := hO.keep hgS4 (by simp [Dx])
   refine Zj [(2, _, _), (3, _, _), (23, _, _), (24, _, _), (25, _, _)] (Za rfl (Za rfl (Za rfl (Za rfl (Za rfl (Zd _)))))) ?_
   refine Zh (hK9 _ _ ?_)
   refine Zf [3, 3] ?_
   refine Zc rfl (fun _ => Xq (Zb rfl) Zl (fun _ => by omega)) ?_
   refine Zc rfl (fun _ => Zi (Zb rfl)) ?_
   refine Zj [(25, _, _), (2, _, _), (3, _, _), (23, _, _), (24, _, _)] (Za rfl (Za rfl (Za rfl (Za rfl (Za rfl (Zd _)))))) ?_
   refine Zh (fun a ha => ?_)
   exact ⟨i + 1, ha, ⟨⟨h2, _, B3, by rw [Jv h2, List.map_append]; exact hO⟩, g⟩, (Wra (blkE B1) (Wra (blkE B2) (Jcb _))), by omega⟩
  replace h2 : i = t.kids.length := by simp only [decide_eq_false_iff_not] at h2; omega
  subst h2
  rw [List.take_length] at hO B3
  refine Wa rfl (hK5 _ _ ?_)
  refine Yi [(2, _, _), (3, _, _)] (Za rfl (Za rfl (Zd _))) ?_
  refine Zg fun K11 hK11 => ?_
  refine Zf [0, 2] ?_
  refine Ya rfl (Yb Zr (Zb rfl) rfl (fun _ => B3.row)) ?_
  refine Yu rfl Xi (Zb rfl) (Zb rfl) rfl rfl B2 rfl rfl ?_
  intro wS5 hgS5 hzS5
  clear B2
  intro B2
  replace B1 := B1.keep hgS5 (by intro h; injection h with h; first | exact x2_1 h.symm | exact x1_2 h | omega)
  replace B3 := B3.keep hgS5 (by intro h; injection h with h; first | exact x2_3 h.symm | exact x3_2 h | omega)
  have g := Xo g hgS5 (by intro k hk; injection hk with hk; omega)
  have hO := hO.keep hgS5 (by simp [Dx])
  refine Zh (hK11 _ _ ?_)
  refine Yf (Zab rfl (Wma rfl Zr rfl (by first | exact B1.row | exact B2.row | exact B3.row) (Qk)) ?_)
  exact ⟨retNd_kd (by rw [Zza]; exact hO.kd fun b hb => hb.1), g⟩
 replace h1 : Vj t = false := h1
 refine Yq (hK3 _ _ ?_)
 refine Yi [(1, _, _), (2, _, _), (3, _, _)] (Za rfl (Za rfl (Za rfl (Zd _)))) ?_
 refine Zg fun K5 hK5 => ?_
 refine Zg fun K6 hK6 => ?_
 refine Zf [3, 0, 3, 3] ?_
 replace B3 : Blk wS1 b3 Vy (ndCells (stripT t) (.slice none 0 0)) := by
  have h := B3
  rw [Umb, numS, h1]; exact h
 refine Zc rfl (fun _ => Zm Zv (Zb rfl)) ?_
 refine Ya rfl (Zt Zq (Zb rfl) (fun _ => B1.at_ rfl)) ?_
 refine Zc rfl (fun _ => Xx Zo (Zb rfl)) ?_
 refine Zc rfl (fun _ => Zi Zl) ?_
 refine Zj [(2, _, _), (3, _, _), (23, _, _), (24, _, _), (25, _, _)] (Za rfl (Za rfl (Za rfl (Za rfl (Za rfl (Zd _)))))) ?_
 refine Zh (hK6 _ _ ?_)
 refine Yp ?_
 refine sc_loop3 (fun (i : Nat) u1 => (i ≤ t.kids.length ∧ ∃ s, Blk u1 b3 Vy (ndCells (stripT t) s) ∧ OwnK Vy (Dx w.heap.size [b1, b2, b3]) w.heap.size u1 ((t.kids.take i).map stripT) s) ∧ G w u1) _ [(2, True, _), (3, True, _), (23, True, _), (24, True, _)] (fun (i : Nat) => [(25, True, .int .i64 i)]) (fun (i : Nat) => t.kids.length - i) (0) ⟨⟨Nat.zero_le _, _, B3, ownK_nil _ _ _ _⟩, g⟩ (Wra (blkE B1) (Wra (blkE B2) (Jcb _))) (Za rfl (Za rfl (Za rfl (Za rfl (Za rfl (Zd _)))))) ?_
 clear B1 B2 B3
 rintro i u1 ⟨hI1, gl1⟩ ⟨B1, B2, _⟩
 replace B1 : Blk _ _ _ _ := B1
 replace B2 : Blk _ _ _ _ := B2
 have g := gl1
 obtain ⟨hi, s, B3, hO⟩ := hI1
 obtain ⟨sa, sc, rfl⟩ := hO.slice
 refine Zg fun K7 hK7 => ?_
 refine Zf [3] ?_
 refine Zc rfl (fun _ => Vh (Zb rfl) (Zb rfl)) ?_
 refine Zh (hK7 _ _ ?_)
 refine Yi [(2, _, _), (3, _, _), (23, _, _), (24, _, _), (25, _, _), (26, _, _)] (Za rfl (Za rfl (Za rfl (Za rfl (Za rfl (Za rfl (Zd _))))))) ?_
 refine Zg fun K8 hK8 => ?_
 refine Zz (Zb rfl) (fun h2 => ?_) (fun h2 => ?_)
 ·replace h2 : i < t.kids.length := by simp only [decide_eq_true_eq] at h2; omega
  obtain ⟨b, o, rfl, hD, xs, hR, hX⟩ := hks (by omega)
  obtain ⟨p', c', hcell, hkid⟩ := Yna hR hX h2
  have hck := Ju h2
  have hkl := Qm t.kids[i]
  have hu := g.size
  have hO := hO.low
  refine Yq (hK8 _ _ ?_)
  refine Yi [(2, _, _), (3, _, _), (23, _, _), (24, _, _), (25, _, _)] (Za rfl (Za rfl (Za rfl (Za rfl (Za rfl (Zd _)))))) ?_
  refine Zg fun K9 hK9 => ?_
  refine Yp ?_
  refine Zg fun K10 hK10 => ?_
  refine Zf [3, 0, 1, 2] ?_
  refine Zc rfl (fun _ => Uc Zo (Zb rfl) (Zb rfl) (fun _ => by omega)) ?_
  refine Ya rfl (Yb Zr (Zb rfl) rfl (fun _ => hcell.grow g)) ?_
  refine Xr rfl Yo rfl ?_
  intro b5 w5 N5
  have x5_1 := N5.ne B1
  have x5_2 := N5.ne B2
  have x5_3 := N5.ne B3
  have l5 := N5.ge g
  have g := g.trans (N5.g)
  replace B1 := B1.grow (N5.g)
  replace B2 := B2.grow (N5.g)
  replace B3 := B3.grow (N5.g)
  try have hO := hO.grow (N5.g)
  have B5 := N5.blk
  refine Yu rfl Xi (Zb rfl) (Zb rfl) rfl rfl B5 rfl rfl ?_
  intro wS2 hgS2 hzS2
  clear B5
  intro B5
  replace B1 := B1.keep hgS2 (by intro h; injection h with h; first | exact x5_1 h.symm | exact x1_5 h | omega)
  replace B2 := B2.keep hgS2 (by intro h; injection h with h; first | exact x5_2 h.symm | exact x2_5 h | omega)
  replace B3 := B3.keep hgS2 (by intro h; injection h with h; first | exact x5_3 h.symm | exact x3_5 h | omega)
  have g := Xo g hgS2 (by intro k hk; injection hk with hk; omega)
  have hO := (hO.keep hgS2 (fun h => by have := N5.ge (G.refl _); have := h.2; omega)).mono fun b h => h.1
  refine Zj [(2, _, _), (3, _, _), (5, _, _), (23, _, _), (24, _, _), (25, _, _)] (Za rfl (Za rfl (Za rfl (Za rfl (Za rfl (Za rfl (Zd _))))))) ?_
  refine Zh (hK10 _ _ ?_)
  refine Vm [3, 0, 0, 1, 1, 2, 3, 2] [true, true, true, true, true, true, true, true] [0, 1, 0, 4, 12, 31, 63, 127] mix (by kernel_rfl) ?_
  have g := g.trans (G.drew _)
  replace B1 := B1.grow (G.drew _)
  replace B2 := B2.grow (G.drew _)
  replace B3 := B3.grow (G.drew _)
  replace B5 := B5.grow (G.drew _)
  try have hO := hO.grow (G.drew _)
  have hB1lt := B1.lt
  have hB2lt := B2.lt
  have hB3lt := B3.lt
  have hOlt := hO.lt
  have hdz : wS2.drew.drew.heap.size = wS2.drew.heap.size := rfl
  refine Zc rfl (fun _ => Zm Zv (Zb rfl)) ?_
  refine Ya rfl (Zt Zq (Zb rfl) (fun _ => B3.at_ rfl)) ?_
  refine Ya rfl (Yb Zr (Zb rfl) rfl (fun _ => B5.row)) ?_
  refine Yd rfl (Zu Yua Yl (Zk (Zb rfl) (Zn)) rfl) (ih _ (List.getElem_mem h2) _ _ _ (hkid.grow g) (by omega) (by omega)) ?_
  rintro v32 w32 ⟨⟨p2, c2, rfl, hk2⟩, g32⟩
  refine ⟨fun _ => g32, ?_⟩
  have g := g.trans g32
  replace B1 := B1.grow (g32)
  replace B2 := B2.grow (g32)
  replace B3 := B3.grow (g32)
  replace B5 := B5.grow (g32)
  try have hO := hO.grow (g32)
  refine Zx [_, _, _, _, _, _, _, _, _] rfl Zo Yo (Zp (Zb rfl) (Yc)) rfl rfl ?_
  intro b33 w33 N33
  have x33_1 := N33.ne B1
  have x33_2 := N33.ne B2
  have x33_3 := N33.ne B3
  have x33_5 := N33.ne B5
  have l33 := N33.ge g
  have g := g.trans (N33.g)
  replace B1 := B1.grow (N33.g)
  replace B2 := B2.grow (N33.g)
  replace B3 := B3.grow (N33.g)
  replace B5 := B5.grow (N33.g)
  try have hO := hO.grow (N33.g)
  have B33 := N33.blk
  have hk2 := hk2.grow N33.g
  have hOo := hO
  refine Yfc rfl Zo Yo rfl (Zb rfl) hO (Zb rfl) rfl B33.row (Uv (hk2.mono fun k hk _ => ⟨⟨by have hk : _ ≤ k := hk; omega, by have hk : _ ≤ k := hk; simp; omega⟩, fun he => by have := hOlt k he.symm; have hk : _ ≤ k := hk; omega⟩)) (by simp; omega) (by have := g.size; omega) ⟨by have := g.size; omega, by have q1 := B1.lt; have q2 := B2.lt; have q3 := B3.lt; simp; omega⟩ ?_
  intro a34 c34 w34 hO hg34
  replace B1 := B1.keep hg34 (hOo.ne (by simp [Dx]))
  replace B2 := B2.keep hg34 (hOo.ne (by simp [Dx]))
  replace B3 := B3.keep hg34 (hOo.ne (by simp [Dx]))
  have g := Xo g hg34 (fun k hk => hOo.ge k hk)
  refine Zc rfl (fun _ => Zm Zv (Zb rfl)) ?_
  refine Jg rfl Jha (Zb rfl) (Zb rfl) rfl B3 rfl rfl ?_
  intro wS3 hgS3 hzS3
  clear B3
  intro B3
  replace B1 := B1.keep hgS3 (by intro h; injection h with h; first | exact x3_1 h.symm | exact x1_3 h | omega)
  replace B2 := B2.keep hgS3 (by intro h; injection h with h; first | exact x3_2 h.symm | exact x2_3 h | omega)
  have g := Xo g hgS3 (by intro k hk; injection hk with hk; omega)
  have hO := hO.keep hgS3 (by simp [Dx])
  refine Zj [(2, _, _), (3, _, _), (23, _, _), (24, _, _), (25, _, _)] (Za rfl (Za rfl (Za rfl (Za rfl (Za rfl (Zd _)))))) ?_
  refine Zh (hK9 _ _ ?_)
  refine Zf [3, 3] ?_
  refine Zc rfl (fun _ => Xq (Zb rfl) Zl (fun _ => by omega)) ?_
  refine Zc rfl (fun _ => Zi (Zb rfl)) ?_
  refine Zj [(25, _, _), (2, _, _), (3, _, _), (23, _, _), (24, _, _)] (Za rfl (Za rfl (Za rfl (Za rfl (Za rfl (Zd _)))))) ?_
  refine Zh (fun a ha => ?_)
  exact ⟨i + 1, ha, ⟨⟨h2, _, B3, by rw [Jv h2, List.map_append]; exact hO⟩, g⟩, (Wra (blkE B1) (Wra (blkE B2) (Jcb _))), by omega⟩
 replace h2 : i = t.kids.length := by simp only [decide_eq_false_iff_not] at h2; omega
 subst h2
 rw [List.take_length] at hO B3
 refine Wa rfl (hK5 _ _ ?_)
 refine Yi [(2, _, _), (3, _, _)] (Za rfl (Za rfl (Zd _))) ?_
 refine Zg fun K11 hK11 => ?_
 refine Zf [0, 2] ?_
 refine Ya rfl (Yb Zr (Zb rfl) rfl (fun _ => B3.row)) ?_
 refine Yu rfl Xi (Zb rfl) (Zb rfl) rfl rfl B2 rfl rfl ?_
 intro wS4 hgS4 hzS4
 clear B2
 intro B2
 replace B1 := B1.keep hgS4 (by intro h; injection h with h; first | exact x2_1 h.symm | exact x1_2 h | omega)
 replace B3 := B3.keep hgS4 (by intro h; injection h with h; first | exact x2_3 h.symm | exact x3_2 h | omega)
 have g := Xo g hgS4 (by intro k hk; injection hk with hk; omega)
 have hO := hO.keep hgS4 (by simp [Dx])
 refine Zh (hK11 _ _ ?_)
 refine Yf (Zab rfl (Wma rfl Zr rfl (by first | exact B1.row | exact B2.row | exact B3.row) (Qk)) ?_)
 exact ⟨retNd_kd (by rw [Zza]; exact hO.kd fun b hb => hb.1), g⟩
end Go.Rk
namespace Go.Rk
open Go Go.RowKit
set_option linter.unusedVariables false
/-! frames without their deferred calls -/
def wd (ds : List Deferred) (a : Act) : Act := { a with defers := ds }
theorem Vsb (ds : List Deferred) (a : Act) (d : Option Tmp) (v : Value) : (wd ds a).put d v = wd ds (a.put d v) := by cases d <;> rfl
theorem wd_self (a : Act) : wd a.defers (wd [] a) = a := by cases a; rfl
theorem Jta {a : Act} (h : a.defers = []) (ds : List Deferred) : wd [] (wd ds a) = a := by cases a; cases h; rfl
theorem Kn.strip {n : Nat} {σ : List Ent} {a : Act} (h : Kn n σ a) (ds : List Deferred) : wd [] (wd ds a) = a := Jta h.2.1 ds
theorem Jr (a : Act) (d : Option Tmp) (v : Value) : (a.put d v).defers = a.defers := by cases d <;> rfl
abbrev DPost := List Deferred → Act → World → Prop
def onD (N : DPost) (a : Act) (w : World) : Prop := N a.defers (wd [] a) w
theorem RS.wd {P : Program} {Z : List PanicEntry → DPost} {ops : Array Oper} {cl : Nat → Nat} {lv : Nat → Bool} {W0 : World} {N : DPost} (ds : List Deferred) : ∀ (L : List Nat) (a : Act) (w : World), a.defers = [] →
  RS P (fun ch a w => Z ch ds a w) ops cl lv W0 (N ds) L a w → RS P (fun ch => onD (Z ch)) ops cl lv W0 (onD N) L (wd ds a) w
 | [], a, w, h0, h => by
  show N ds (Go.Rk.wd [] (Go.Rk.wd ds a)) w
  rw [Jta h0]; exact h
 | i :: rest, a, w, h0, ⟨o, ho, hb⟩ => by
  refine ⟨o, ho, ?_⟩
  by_cases hc : cl i = 0 ∨ cl i = 3
  ·rw [if_pos hc] at hb ⊢
   obtain ⟨v, h1, h2, h3⟩ := hb
   refine ⟨v, h1, h2, ?_⟩
   rw [Vsb]; exact RS.wd ds rest _ _ ((Jr a o.dst v).trans h0) h3
  ·rw [if_neg hc] at hb ⊢
   by_cases hw : Region.wanted o (yielded ops a.tmps) = true
   ·rw [if_pos hw] at hb
    refine (if_pos (show Region.wanted o (yielded ops (Go.Rk.wd ds a).tmps) = true from hw)).mpr ?_
    refine Eff.turn (a := a) (b := Go.Rk.wd ds a) rfl (fun ch w' hz => ?_) (fun v w' _ hk => ?_) hb
    ·show Z ch ds (Go.Rk.wd [] (Go.Rk.wd ds a)) w'
     rw [Jta h0]; exact hz
    ·rw [Vsb]; exact RS.wd ds rest _ _ ((Jr a o.dst v).trans h0) hk
   ·rw [if_neg hw] at hb
    refine (if_neg (show ¬ Region.wanted o (yielded ops (Go.Rk.wd ds a).tmps) = true from hw)).mpr ?_
    rw [Vsb]; exact RS.wd ds rest _ _ ((Jr a o.dst undef).trans h0) hb
theorem RT.wd {P : Program} {Z : List PanicEntry → DPost} {ops : Array Oper} {cl : Nat → Nat} {wt : Nat → Nat → Bool} {row : Option Nat} {N : DPost} (ds : List Deferred) : ∀ (m : Nat) (L : List Nat) (a : Act) (w : World), a.defers = [] →
  RT P (fun ch a w => Z ch ds a w) ops cl wt row (N ds) m L a w → RT P (fun ch => onD (Z ch)) ops cl wt row (onD N) m L (wd ds a) w
 | 0, L, a, w, h0, h => ⟨h.1, by
  show N ds (Go.Rk.wd [] (Go.Rk.wd ds a)) w
  rw [Jta h0]; exact h.2⟩
 | m + 1, L, a, w, h0, .inl ⟨r, hr, hav, hc, o, ho, v, h1, h2, h3⟩ => .inl ⟨r, hr, hav, hc, o, ho, v, h1, h2, by
  rw [Vsb]; exact RT.wd ds m _ _ _ ((Jr a o.dst v).trans h0) h3⟩
 | m + 1, L, a, w, h0, .inr ⟨hno, hall⟩ => .inr ⟨hno, fun j hj hav => by
  obtain ⟨o, ho, hb⟩ := hall j hj hav
  refine ⟨o, ho, ?_⟩
  by_cases hw : Region.wanted o (yielded ops a.tmps) = true
  ·rw [if_pos hw] at hb
   refine (if_pos (show Region.wanted o (yielded ops (Go.Rk.wd ds a).tmps) = true from hw)).mpr ?_
   refine EffQ.turn (a := a) (b := Go.Rk.wd ds a) rfl (fun ch w' hz => ?_) (fun v w' _ hk => ?_) hb
   ·show Z ch ds (Go.Rk.wd [] (Go.Rk.wd ds a)) w'
    rw [Jta h0]; exact hz
   ·rw [Vsb]; exact RT.wd ds m _ _ _ ((Jr a o.dst v).trans h0) hk
  ·rw [if_neg hw] at hb
   refine (if_neg (show ¬ Region.wanted o (yielded ops (Go.Rk.wd ds a).tmps) = true from hw)).mpr ?_
   rw [Vsb]; exact RT.wd ds m _ _ _ ((Jr a o.dst undef).trans h0) hb⟩
def QofD (N : DPost) (X : List (Nat × DPost)) (T : DPost) (Z : List PanicEntry → DPost) : Exit → Act → World → Prop
 | .normal, a, w => onD N a w
 | .ret, a, w => onD T a w
 | .exit id, a, w => match X.lookup id with | some k => onD k a w | none => False
 | .panic ch, a, w => onD (Z ch) a w
 | _, _, _ => False
def SCD (P : Program) (ρ : Option Nat) (n : Nat) (ds : List Deferred) (c : Code) (N : DPost) (X : List (Nat × DPost)) (T : DPost) (Z : List PanicEntry → DPost) (σ : List Ent) (w : World) : Prop :=
 ∀ a, Kn n σ a → c.wpIn (WF ρ) 0 P (QofD N X T Z) (wd ds a) w
section
variable {P : Program} {ρ : Option Nat} {n : Nat} {ds : List Deferred} {N T : DPost} {X : List (Nat × DPost)} {Z : List PanicEntry → DPost} {σ : List Ent} {w : World}
theorem Yga {c : Code} (τ : List Ent) (hs : Sub τ σ) (h : SCD P ρ n ds c N X T Z τ w) : SCD P ρ n ds c N X T Z σ w := fun a ha => h a (ha.sub hs)
theorem Ws {x y : Code} (h : ∀ K : DPost, (∀ ds τ u, SCD P ρ n ds y N X T Z τ u → ∀ a, Kn n τ a → K ds a u) → SCD P ρ n ds x K X T Z σ w) : SCD P ρ n ds (.seq x y) N X T Z σ w := fun a ha => by
 refine wpIn_seq (wpIn_mono (h (fun ds a w => y.wpIn (WF ρ) 0 P (QofD N X T Z) (wd ds a) w) (fun ds τ u hy a ha => hy a ha) a ha) (fun e a w q => ?_))
 cases e with
 | normal =>
  have q : y.wpIn (WF ρ) 0 P (QofD N X T Z) (wd a.defers (wd [] a)) w := q
  rw [wd_self] at q; exact q
 | _ => exact q
theorem Xya (h : ∀ a, Kn n σ a → N ds a w) : SCD P ρ n ds .skip N X T Z σ w := fun a ha => wpIn_skip (show N ds (wd [] (wd ds a)) w by rw [ha.strip]; exact h a ha)
theorem Jgb (h : ∀ a, Kn n σ a → T ds a w) : SCD P ρ n ds .ret N X T Z σ w := fun a ha => wpIn_ret (show T ds (wd [] (wd ds a)) w by rw [ha.strip]; exact h a ha)
theorem scd_exit {id : Nat} {k : DPost} (hk : X.lookup id = some k) (h : ∀ a, Kn n σ a → k ds a w) : SCD P ρ n ds (.exit id) N X T Z σ w := fun a ha => wpIn_exit (by
 show match X.lookup id with | some k => onD k (wd ds a) w | none => False
 rw [hk]
 show k ds (wd [] (wd ds a)) w
 rw [ha.strip]; exact h a ha)
theorem Zgb {id : Nat} {c : Code} (h : SCD P ρ n ds c N ((id, N) :: X) T Z σ w) : SCD P ρ n ds (.block id c) N X T Z σ w := fun a ha => by
 refine wpIn_block (wpIn_mono (h a ha) (fun e a w q => ?_))
 cases e with
 | exit id' =>
  simp only [Exit.inBlock]
  by_cases he : id' = id
  ·subst he
   rw [if_pos rfl]
   simpa [QofD, List.lookup] using q
  ·rw [if_neg he]
   simp only [QofD] at q ⊢
   rw [List.lookup_cons] at q
   have : (id' == id) = false := by simpa using he
   rw [this] at q
   exact q
 | _ => exact q
theorem Uea {x : Operand} {b : Bool} {p q : Code} (hx : Ev n σ True x (.bool b)) (h1 : b = true → SCD P ρ n ds p N X T Z σ w) (h2 : b = false → SCD P ρ n ds q N X T Z σ w) : SCD P ρ n ds (.cond x p q) N X T Z σ w := fun a ha =>
 wpIn_cond_split (show (wd ds a).eval x = .bool b from hx a ha trivial) (fun h => h1 h a ha) (fun h => h2 h a ha)
theorem Wo {id : Nat} {l : List Oper} (cl : List Nat) (h : SR P (fun ch a w => Z ch ds a w) l cl [] w n (N ds) 0 l σ w) : SCD P ρ n ds (.region id l.toArray false) N X T Z σ w := fun a ha => by
 have h1 := h (fun j o ho => by simpa using ho) a ha
 have e : lvOf [] = fun _ => true := by funext i; simp [lvOf]
 rw [e] at h1
 have h2 := RS.wd (Z := Z) (N := N) ds _ a w ha.2.1 h1
 rw [show List.range' 0 l.length = List.range l.toArray.size by rw [List.range_eq_range']; simp] at h2
 exact wpIn_text (Z := fun ch => onD (Z ch)) (fun ch a w h => h) h2
theorem scd_draw {id : Nat} {l : List Oper} (cl : List Nat) (lv : List Bool) (ms : List Nat) (hm : P.follows .mixedOrders = true) (hok : okB l cl lv ms = true)
  (h : SR P NoP l cl lv w.drew n (N ds) 0 l σ w.drew) : SCD P ρ n ds (.region id l.toArray true) N X T Z σ w := fun a ha => by
 have h1 := h (fun j o ho => by simpa using ho) a ha
 have h2 := RS.wd (Z := fun _ _ _ _ => False) (N := N) ds _ a w.drew ha.2.1 h1
 rw [show List.range' 0 l.length = List.range l.toArray.size by rw [List.range_eq_range']; simp] at h2
 exact wpIn_draw (Z := fun ch => onD (fun _ _ _ => False)) (fun _ _ _ h => h) (okay_of hok) hm h2
theorem scd_loopD {c : Code} {α : Type} (I : α → World → Prop) (σf : α → List Ent) (df : α → List Deferred) (μ : α → Nat) (x0 : α) (h0 : I x0 w) (hd : df x0 = ds) (hs : Sub (σf x0) σ)
  (round : ∀ x w, I x w → SCD P ρ n (df x) c (fun ds' a' w' => ∃ y, df y = ds' ∧ Kn n (σf y) a' ∧ I y w' ∧ μ y < μ x) X T Z (σf x) w) : SCD P ρ n ds (.loop c) N X T Z σ w := fun a ha => by
 intro b k cs hro hb hr
 have key : ∀ m x a w, μ x = m → Kn n (σf x) a → I x w →
   ∃ e a' w', QofD N X T Z e a' w' ∧ ArrivesIn (Machine.fenced P (WF ρ)) P (lone (b.atR (wd (df x) a) (.code c :: .inLoop c :: k)) cs w) b k cs e a' w' := by
  intro m
  induction m using Nat.strongRecOn with
  | _ m ih =>
   intro x a w hm hk hI
   obtain ⟨e, a₁, w₁, hq, harr⟩ := round x w hI a hk b (.inLoop c :: k) cs hro hb hr
   cases e with
   | normal =>
    obtain ⟨y, hd1, hk1, hI1, hlt⟩ := hq
    obtain ⟨e₂, a₂, w₂, hq₂, harr₂⟩ := ih (μ y) (hm ▸ hlt) y _ w₁ rfl hk1 hI1
    rw [hd1, wd_self] at harr₂
    exact ⟨e₂, a₂, w₂, hq₂, .of_steps (StepsIn.trans harr (.one (fenced_calm hb hr rfl) stepR_inLoop)) harr₂⟩
   | exit id => exact ⟨.exit id, a₁, w₁, hq, .pass (x := .inLoop c) rfl (fun _ _ => .inl (by simp)) harr⟩
   | goto l => exact hq.elim
   | ret => exact ⟨.ret, a₁, w₁, hq, .pass (x := .inLoop c) rfl (fun _ _ => .inl (by simp)) harr⟩
   | panic ch => exact ⟨.panic ch, a₁, w₁, hq, .pass (x := .inLoop c) rfl (fun _ _ => .inl (by simp)) harr⟩
   | outgrown => exact hq.elim
 obtain ⟨e, a', w', hq, harr⟩ := key _ x0 a w rfl (ha.sub hs) h0
 rw [hd] at harr
 exact ⟨e, a', w', hq, .of_steps (.one (fenced_calm hb hr rfl) stepR_loop) harr⟩
theorem scd_loop2 {c : Code} {α : Type} (I : α → World → Prop) (σc : List Ent) (σf : α → List Ent) (μ : α → Nat) (x0 : α) (h0 : I x0 w) (hs : Sub (σf x0 ++ σc) σ)
  (round : ∀ x w, I x w → SCD P ρ n ds c (fun ds' a' w' => ds' = ds ∧ ∃ y, Kn n (σf y ++ σc) a' ∧ I y w' ∧ μ y < μ x) X T Z (σf x ++ σc) w) : SCD P ρ n ds (.loop c) N X T Z σ w := by
 refine scd_loopD I (fun x => σf x ++ σc) (fun _ => ds) μ x0 h0 rfl hs fun x w h => fun a ha => wpIn_mono (round x w h a ha) (fun e a w q => ?_)
 cases e with
 | normal => obtain ⟨q1, y, q2⟩ := q; exact ⟨y, q1.symm, q2⟩
 | _ => exact q
end
/-! calls that may panic; rounds -/
def RP (R : Value → World → Prop) (Rp : List PanicEntry → World → Prop) (e : Ending) (w : World) : Prop := (∃ v, e = .returned v ∧ R v w) ∨ (∃ ch, e = .panicked ch ∧ Rp ch w)
def RetP (P : Program) (f : FuncId) (args : Array Value) (w : World) (R : Value → World → Prop) (Rp : List PanicEntry → World → Prop) : Prop := Calls P f args w (RP R Rp)
theorem RetP.mono {P : Program} {f : FuncId} {args : Array Value} {w : World} {R R' : Value → World → Prop} {Rp Rp' : List PanicEntry → World → Prop} (h : RetP P f args w R Rp) (hr : ∀ v w', R v w' → R' v w') (hp : ∀ ch w', Rp ch w' → Rp' ch w') : RetP P f args w R' Rp' :=
 Calls.mono h fun _ _ h => h.imp (fun ⟨v, e, k⟩ => ⟨v, e, hr v _ k⟩) (fun ⟨ch, e, k⟩ => ⟨ch, e, hp ch _ k⟩)
theorem RetP.ret {P : Program} {f : FuncId} {args : Array Value} {w : World} {R : Value → World → Prop} {Rp : List PanicEntry → World → Prop} (h : RetP P f args w R Rp) (hp : ∀ ch w', ¬ Rp ch w') : Ret P f args w R :=
 Calls.mono h fun _ _ h => h.elim id fun ⟨_, _, k⟩ => absurd k (hp _ _)
def Yld (P : Program) (l : Nat) (args : Array Value) (w : World) (R : Value → World → Prop) : Prop :=
 ∃ fn tmps asg body, (Instr.yield l args).run P w = .ok (.round l fn tmps asg body) w ∧ RoundIn Fence.wide 0 P l fn tmps asg body w fun e w' => ∃ v, e = .returned v ∧ R v w'
theorem Yld.mono {P : Program} {l : Nat} {args : Array Value} {w : World} {R R' : Value → World → Prop} (h : Yld P l args w R) (hr : ∀ v w', R v w' → R' v w') : Yld P l args w R' := by
 obtain ⟨fn, tmps, asg, body, h1, h2⟩ := h
 exact ⟨fn, tmps, asg, body, h1, RoundIn.mono h2 fun _ _ ⟨v, e, k⟩ => ⟨v, e, hr v _ k⟩⟩
@[reducible] def yldV (l : Nat) : Value := .func (.yield l) #[] #[]
section
variable {P : Program} {Z : List PanicEntry → Act → World → Prop} {ops : List Oper} {cl : List Nat} {lv : List Bool} {W0 : World} {n : Nat} {K : Act → World → Prop} {k : Nat} {rest : List Oper} {σ : List Ent} {w : World} {d : Nat} {op : Op} {ty : TypeId} {pos : String} {after : Array Edge} {v : Value}
theorem sr_yield {x : Operand} {l : Nat} {xs : List Operand} {vs : List Value} {ats : Array TypeId} {R : Value → World → Prop} (hb : (!Nat.beq (clOf cl k) 0 && !Nat.beq (clOf cl k) 3 && Nat.blt d n) = true) (hx : Ev n σ True x (yldV l)) (ha : Qqa n σ True xs vs) (hY : Yld P l vs.toArray w R)
  (h : ∀ v w', R v w' → (clOf cl k = 1 → G w w') ∧ SR P Z ops cl lv W0 n K (k + 1) rest ((d, True, v) :: σ) w') :
  SR P Z ops cl lv W0 n K k (⟨some d, .call { callee := .value x, args := xs.toArray, argTypes := ats }, ty, pos, after, none⟩ :: rest) σ w := fun hl a hk => by
 obtain ⟨h0, h1⟩ := Ur hl
 simp only [Bool.and_eq_true, Bool.not_eq_true'] at hb
 rw [List.length_cons, List.range'_succ]
 refine ⟨_, h0, ?_⟩
 rw [if_neg (fun he => by rcases he with he | he <;> rw [he] at hb <;> simp at hb), if_pos Jxa]
 obtain ⟨fn, tmps, asg, body, hy, hR⟩ := hY
 refine .inr (.inr (.inr ⟨l, fn, tmps, asg, body, ?_, RoundIn.mono hR fun e w' ⟨v, he, hv⟩ => ?_⟩))
 ·have h2 : xs.toArray.map a.eval = vs.toArray := by rw [List.map_toArray, ha a hk trivial]
  simp only [execOp, resolve, hx a hk trivial, h2, Deferred.ofValue, Sem.run_bind, Sem.run_pure, Result.andThen_ok, invoke]
  simpa using hy
 ·obtain ⟨q1, q2⟩ := h v w' hv
  exact ⟨v, he, fun hh => q1 (by simpa using hh), q2 h1 _ (hk.put hb.2 (fun _ => rfl) (fun hn => absurd trivial hn))⟩
end
end Go.Rk
namespace Go.Rk
open Go Go.RowKit
set_option linter.unusedVariables false
/-! ends -/
def TD (P : Program) (fn : Func) (R : Value → World → Prop) (Rp : List PanicEntry → World → Prop) : DPost := fun ds a w => LeavesInM Fence.wide 0 P fn a.tmps (RP R Rp) ds .returning w
def ZD (P : Program) (fn : Func) (R : Value → World → Prop) (Rp : List PanicEntry → World → Prop) (ch : List PanicEntry) : DPost := fun ds a w => LeavesInM Fence.wide 0 P fn a.tmps (RP R Rp) ds (.panicking ch) w
theorem retP_of_scd {P : Program} {f : FuncId} {fn : Func} {c : Code} {args : List Value} {w : World} {R : Value → World → Prop} {Rp : List PanicEntry → World → Prop} {m : Nat} (hf : P.funcs[f]? = some fn) (hb : fn.body = some c) (hm : args.length + (fn.ntmps - args.length) = m)
  (σ0 : List Ent) (hs : Sub σ0 (argsK 0 args)) (hh : SCD P none m [] c (TD P fn R Rp) [] (TD P fn R Rp) (ZD P fn R Rp) σ0 w) : RetP P f args.toArray w R Rp := by
 have h0 := hh { tmps := args.toArray ++ Array.replicate (fn.ntmps - args.toArray.size) undef, defers := [] } (Kn.sub (σ := argsK 0 args) ?_ hs)
 refine callsIn_wide.1 (callsIn_of_wp_marks (F := Fence.wide) (n := 0) hf hb trivial (wpIn_mono (F := Fence.wide) h0 (fun e a w q => ?_)))
 rotate_left
 ·refine ⟨by simp [← hm], rfl, fun t c' v hl => ?_⟩
  obtain ⟨rfl, _, h3⟩ := Uha args 0 t c' v hl
  refine ⟨fun _ => ?_, fun hn => absurd trivial hn⟩
  rw [Nat.sub_zero] at h3
  have hlt : t < args.length := (List.getElem?_eq_some_iff.1 h3).1
  simp [Array.getElem?_append, hlt, h3]
  simpa [hlt] using h3
 cases e with
  | normal => exact q
  | ret => exact q
  | exit id => exact q.elim
  | goto l => exact q.elim
  | panic ch => exact q
  | outgrown => exact q.elim
theorem Uwa {P : Program} {f : FuncId} {fn : Func} {c : Code} {args : List Value} {w : World} {R : Value → World → Prop} {m : Nat} (hf : P.funcs[f]? = some fn) (hb : fn.body = some c) (hm : args.length + (fn.ntmps - args.length) = m)
  (σ0 : List Ent) (hs : Sub σ0 (argsK 0 args)) (hh : SCD P none m [] c (TD P fn R fun _ _ => False) [] (TD P fn R fun _ _ => False) (ZD P fn R fun _ _ => False) σ0 w) : Ret P f args.toArray w R :=
 (retP_of_scd hf hb hm σ0 hs hh).ret fun _ _ h => h
section
variable {P : Program} {n : Nat} {fn : Func} {R : Value → World → Prop} {Rp : List PanicEntry → World → Prop} {σ : List Ent} {w : World} {ds : List Deferred}
theorem td_ret (h : ∀ a, Kn n σ a → bodyPost P fn (fun e w' => ∃ v, e = .returned v ∧ R v w') .ret a w) : ∀ a, Kn n σ a → TD P fn R Rp [] a w := fun a ha => by
 have h1 := h a ha
 unfold bodyPost at h1
 obtain ⟨hd, v, hr, v', e, hv⟩ := h1
 injection e with e; subst e
 exact ⟨_, hr, .inl ⟨_, rfl, hv⟩⟩
theorem Wjb (hr : fn.results = #[]) (h : R (.tuple #[]) w) : ∀ a, Kn n σ a → TD P fn R Rp [] a w := fun a ha => ⟨_, results_none hr _ _ _, .inl ⟨_, rfl, h⟩⟩
@[reducible] def markD (db : Nat) : Deferred := { target := .collected db, args := #[] }
theorem td_mark {db : Nat} (hk : w.heap[db]? = some (.deferred (some []))) (h : ∀ a, Kn n σ a → TD P fn R Rp ds a (w.putObj db (.deferred none))) : ∀ a, Kn n σ a → TD P fn R Rp (markD db :: ds) a w := fun a ha =>
 ⟨by simp, .inl ⟨_, _, rfl, run_takeDeferred hk, h a ha⟩⟩
def RetB (P : Program) (f : FuncId) (args : Array Value) (w : World) (R : Value → World → Prop) : Prop :=
 ∃ fn c, P.funcs[f]? = some fn ∧ fn.body = some c ∧ c.wp P (bodyPost P fn (fun e w' => ∃ v, e = .returned v ∧ R v w')) { tmps := args ++ Array.replicate (fn.ntmps - args.size) undef, defers := [] } w
theorem RetB.ret {P : Program} {f : FuncId} {args : Array Value} {w : World} {R : Value → World → Prop} (h : RetB P f args w R) : Ret P f args w R := by
 obtain ⟨fn, c, hf, hb, h⟩ := h
 exact calls_of_wp hf hb h
theorem RetB.mono {P : Program} {f : FuncId} {args : Array Value} {w : World} {R R' : Value → World → Prop} (h : RetB P f args w R) (hr : ∀ v w', R v w' → R' v w') : RetB P f args w R' := by
 obtain ⟨fn, c, hf, hb, h⟩ := h
 refine ⟨fn, c, hf, hb, wp_mono h fun e a w q => ?_⟩
 unfold bodyPost at q ⊢
 split at q <;> first
  | (obtain ⟨q0, v, q1, v', q3, q4⟩ := q; exact ⟨q0, v, q1, v', q3, hr _ _ q4⟩)
  | (obtain ⟨q1, v', q3, q4⟩ := q; exact ⟨q1, v', q3, hr _ _ q4⟩)
  | (obtain ⟨v', q3, q4⟩ := q; exact ⟨v', q3, hr _ _ q4⟩)
  | exact q.elim
theorem retB_of_sc {f : FuncId} {fn : Func} {c : Code} {args : List Value} {R : Value → World → Prop} {m : Nat} (hf : P.funcs[f]? = some fn) (hb : fn.body = some c) (hm : args.length + (fn.ntmps - args.length) = m)
  (σ0 : List Ent) (hs : Sub σ0 (argsK 0 args))
  (hh : SC P m c (fun a w => bodyPost P fn (fun e w' => ∃ v, e = .returned v ∧ R v w') .normal a w) [] (fun a w => bodyPost P fn (fun e w' => ∃ v, e = .returned v ∧ R v w') .ret a w)
   σ0 w) : RetB P f args.toArray w R := by
 refine ⟨fn, c, hf, hb, (Code.wp_mono (fun e a w q => ?_) (hh _ (Kn.sub (σ := argsK 0 args) ?_ hs)))⟩
 ·cases e with
  | normal => exact q
  | ret => exact q
  | _ => exact q.elim
 ·refine ⟨by simp [← hm], rfl, fun t c' v hl => ?_⟩
  obtain ⟨rfl, _, h3⟩ := Uha args 0 t c' v hl
  refine ⟨fun _ => ?_, fun hn => absurd trivial hn⟩
  rw [Nat.sub_zero] at h3
  have hlt : t < args.length := (List.getElem?_eq_some_iff.1 h3).1
  simp [Array.getElem?_append, hlt, h3]
  simpa [hlt] using h3
theorem retB_callsD {f : FuncId} {args : Array Value} {u : FrameMode} {w : World} {R : Value → World → Prop} (h : RetB P f args w R) : CallsDIn Fence.wide (0 - 1) P f args u w fun e u' w' => u' = u ∧ ∃ v, e = .returned v ∧ R v w' := by
 obtain ⟨fn, c, hf, hb, h⟩ := h
 exact callsDIn_of_wp hf hb trivial (wpIn_wide.2 h)
@[reducible] def fnD (f : Nat) (cs args : Array Value) : Deferred := { target := .fn (.func f) cs, args := args }
theorem td_call {f : Nat} {cs args : Array Value} {R' : Value → World → Prop} (hgo : goFn P f = true) (hC : RetB P f (args ++ cs) w R') (h : ∀ v w', R' v w' → ∀ a, Kn n σ a → TD P fn R Rp ds a w') : ∀ a, Kn n σ a → TD P fn R Rp (fnD f cs args :: ds) a w := fun a ha => by
 refine ⟨by simp, .inr ⟨(fun h => by cases h), .func f, cs, f, args ++ cs, rfl, Jrb hgo _ _, fun _ _ => trivial, ?_⟩⟩
 have h1 := retB_callsD (u := .returning) hC
 refine ⟨h1.1, fun c cs' hu hr => ?_⟩
 obtain ⟨e, u', w', fr, ⟨rfl, v, rfl, hv⟩, h2⟩ := h1.2 c cs' hu hr
 refine ⟨.returned v, _, w', fr, ?_, h2⟩
 show LeavesInM _ _ _ _ _ _ _ (settle .returning) _
 exact h v w' hv a ha
end
theorem RS.mono {P : Program} {Z : List PanicEntry → Act → World → Prop} {ops : Array Oper} {cl : Nat → Nat} {lv : Nat → Bool} {W0 : World} {K K' : Act → World → Prop} (hK : ∀ a w, K a w → K' a w) : ∀ (L : List Nat) (a : Act) (w : World), RS P Z ops cl lv W0 K L a w → RS P Z ops cl lv W0 K' L a w
 | [], a, w, h => hK _ _ h
 | i :: rest, a, w, ⟨o, ho, hb⟩ => by
  refine ⟨o, ho, ?_⟩
  by_cases hc : cl i = 0 ∨ cl i = 3
  ·rw [if_pos hc] at hb ⊢
   obtain ⟨v, h1, h2, h3⟩ := hb
   exact ⟨v, h1, h2, RS.mono hK rest _ _ h3⟩
  ·rw [if_neg hc] at hb ⊢
   by_cases hw : Region.wanted o (yielded ops a.tmps) = true
   ·rw [if_pos hw] at hb ⊢
    exact hb.turn rfl (fun _ _ h => h) fun v w' _ hk => RS.mono hK rest _ _ hk
   ·rw [if_neg hw] at hb ⊢
    exact RS.mono hK rest _ _ hb
/-! the operation that defers a call, last in its region -/
def RunD (P : Program) (n : Nat) (σ : List Ent) (w : World) (op : Op) (ty : TypeId) (d : Deferred) : Prop :=
 ∀ (dst : Option Tmp) (pos : String) (after : Array Edge) (g : Option (Nat × Bool)) (a : Act), Kn n σ a → (execOp a.eval ⟨dst, op, ty, pos, after, g⟩).run P w = .ok (.defer d) w
theorem rdd_call {P : Program} {n : Nat} {σ : List Ent} {w : World} {x : Operand} {f : Nat} {cs : Array Value} {xs : List Operand} {vs : List Value} {ats : Array TypeId} {ty : TypeId} (h : Ev n σ True x (.func (.func f) #[] cs)) (hx : Qqa n σ True xs vs) :
  RunD P n σ w (.defer { callee := .value x, args := xs.toArray, argTypes := ats }) ty (fnD f cs vs.toArray) := fun dst pos after g a hk => by
 have h2 : xs.toArray.map a.eval = vs.toArray := by rw [List.map_toArray, hx a hk trivial]
 simp [execOp, resolve, h a hk trivial, h2, Deferred.ofValue, fnD]
def KDef (P : Program) (o : Oper) (N : DPost) (ds : List Deferred) (a : Act) (w : World) : Prop := ∃ d, (execOp a.eval o).run P w = .ok (.defer d) w ∧ N (d :: ds) (a.put o.dst undef) w
theorem kdef_mk {P : Program} {n : Nat} {σ : List Ent} {w : World} {op : Op} {ty : TypeId} {pos : String} {after : Array Edge} {d : Deferred} {N : DPost} {ds : List Deferred} (hr : RunD P n σ w op ty d) (h : ∀ a, Kn n σ a → N (d :: ds) a w) : ∀ a, Kn n σ a → KDef P ⟨none, op, ty, pos, after, none⟩ N ds a w := fun a ha =>
 ⟨d, hr _ _ _ _ a ha, h a ha⟩
theorem Yaa {P : Program} {F : Fence} {n : Nat} {ops : Array Oper} {Q : Exit → Act → World → Prop} {L2 : List Nat} : ∀ (L1 : List Nat) (a : Act) (w : World), wpOpsIn F n P ops (Exit.then (fun a w => wpOpsIn F n P ops Q L2 a w) Q) L1 a w → wpOpsIn F n P ops Q (L1 ++ L2) a w
 | [], a, w, h => h
 | i :: L1, a, w, h => by
  have e := wpOpsIn_cons (F := F) (n := n) (P := P) (ops := ops) (Q := Q) i (L1 ++ L2) a w
  rw [List.cons_append, e]
  have e1 := wpOpsIn_cons (F := F) (n := n) (P := P) (ops := ops) (Q := Exit.then (fun a w => wpOpsIn F n P ops Q L2 a w) Q) i L1 a w
  rw [e1] at h
  unfold wpOpIn at h ⊢
  cases ho : ops[i]? with
  | none => simp only [ho] at h ⊢; exact Yaa L1 _ _ h
  | some o =>
   simp only [ho] at h ⊢
   by_cases hw : Region.wanted o (yielded ops a.tmps) = true
   ·rw [if_pos hw] at h ⊢
    refine ⟨h.1, ?_⟩
    have h2 := h.2
    generalize (o.semAt F.round a.eval).run P w = r at *
    cases r with
    | ok x w' =>
     cases x <;> simp only [Oper.uponIn, LetsOut] at h2 ⊢ <;>
      first
       | exact Yaa L1 _ _ h2
       | exact ⟨h2.1, CallsIn.mono h2.2 (fun e w'' he => by cases e <;> first | exact Yaa L1 _ _ he | exact he)⟩
       | exact ⟨h2.1, RowsIn.mono h2.2 (fun _ _ he => Yaa L1 _ _ he)⟩
       | exact ⟨h2.1, RoundIn.mono h2.2 (fun e w'' he => by cases e <;> first | exact Yaa L1 _ _ he | exact he)⟩
       | exact h2
    | halt x w' => cases x <;> simp only [Oper.uponIn] at h2 ⊢ <;> exact h2
   ·rw [if_neg hw] at h ⊢
    exact ⟨h.1, Yaa L1 _ _ h.2⟩
section
variable {P : Program} {n : Nat} {ds : List Deferred} {N T : DPost} {X : List (Nat × DPost)} {Z : List PanicEntry → DPost} {σ : List Ent} {w : World}
theorem Ykc {id k : Nat} {l : List Oper} {o : Oper} (cl : List Nat) (hk : Nat.beq l.length (k + 1) = true) (ho : l[k]? = some o) (hg : o.guard = none)
  (h : SR P (fun ch a w => Z ch ds a w) l cl [] w n (KDef P o N ds) 0 (l.take k) σ w) : SCD P none n ds (.region id l.toArray false) N X T Z σ w := fun a ha => by
 have hk := Nat.eq_of_beq_eq_true hk
 have h1 := h (fun j o' ho' => by
  rw [List.getElem?_take] at ho'
  split at ho'
  ·simpa using ho'
  ·cases ho') a ha
 have e : lvOf [] = fun _ => true := by funext i; simp [lvOf]
 rw [e] at h1
 have h2 := RS.wd (Z := Z) (N := fun ds a w => KDef P o N ds a w) ds _ a w ha.2.1 h1
 refine wpIn_region ?_
 have hL : List.range l.toArray.size = List.range' 0 (l.take k).length ++ [k] := by
  rw [List.length_take, Nat.min_eq_left (by omega), List.size_toArray, hk, List.range_succ, List.range_eq_range']
 rw [hL]
 refine Yaa _ _ _ (Xja (ρ := none) (cl := clOf cl) (W0 := w) (Z := fun ch => onD (Z ch)) (fun ch a w h => h) _ _ _ ?_)
 refine RS.mono (fun a' w' hq => ?_) _ _ _ h2
 obtain ⟨d, hr, hn⟩ := hq
 have hw : Region.wanted o (yielded l.toArray a'.tmps) = true := by unfold Region.wanted; rw [hg]
 show wpOpsIn (WF none) 0 P l.toArray (QofD N X T Z) [k] a' w'
 unfold wpOpsIn
 simp only [List.getElem?_toArray, ho]
 rw [if_pos hw]
 refine ⟨fun _ _ => trivial, ?_⟩
 have hr : (execOp a'.eval o).run P w' = .ok (.defer d) w' := hr
 rw [show Oper.semAt (WF none).round a'.eval o = execOp a'.eval o from rfl, hr]
 have e1 : (({ a' with defers := d :: a'.defers } : Act).put o.dst undef).defers = d :: a'.defers := Jr _ _ _
 have e2 : wd [] (({ a' with defers := d :: a'.defers } : Act).put o.dst undef) = (wd [] a').put o.dst undef := by
  cases o.dst <;> rfl
 show N (({ a' with defers := d :: a'.defers } : Act).put o.dst undef).defers (wd [] (({ a' with defers := d :: a'.defers } : Act).put o.dst undef)) w'
 rw [e1, e2]; exact hn
end
end Go.Rk
namespace Go.Rk
open Go Go.RowKit
set_option linter.unusedVariables false
/-! what a round may write; what lies between two rounds -/
structure GB (B : Nat → Prop) (w w' : World) : Prop where
 os : w'.os = w.os
 tape : w'.tape = w.tape
 output : w'.output = w.output
 size : w.heap.size ≤ w'.heap.size
 block : ∀ k, k < w.heap.size → ¬ B k → w'.heap[k]? = w.heap[k]?
theorem GB.refl (B : Nat → Prop) (w : World) : GB B w w := ⟨rfl, rfl, rfl, Nat.le_refl _, fun _ _ _ => rfl⟩
theorem GB.trans {B : Nat → Prop} {a b c : World} (h : GB B a b) (k : GB B b c) : GB B a c :=
 ⟨k.os.trans h.os, k.tape.trans h.tape, k.output.trans h.output, Nat.le_trans h.size k.size, fun i hi hn => (k.block i (Nat.lt_of_lt_of_le hi h.size) hn).trans (h.block i hi hn)⟩
theorem GB.mono {B B' : Nat → Prop} {w w' : World} (h : GB B w w') (hB : ∀ k, k < w.heap.size → B k → B' k) : GB B' w w' := ⟨h.os, h.tape, h.output, h.size, fun k hk hn => h.block k hk fun hb => hn (hB k hk hb)⟩
theorem GB.of_g {B : Nat → Prop} {w w' : World} (h : G w w') : GB B w w' := ⟨h.os, h.tape, h.output, h.size, fun k hk _ => h.block hk⟩
theorem GB.g {B : Nat → Prop} {w w' : World} (h : GB B w w') (hB : ∀ k, B k → w.heap.size ≤ k) : G w w' := ⟨h.os, h.tape, h.output, h.size, fun k hk => h.block k hk fun hb => by have := hB k hb; omega⟩
theorem g_gb {B : Nat → Prop} {w0 w w' : World} (g : G w0 w) (h : GB B w w') (hB : ∀ k, B k → w0.heap.size ≤ k) : G w0 w' :=
 ⟨h.os.trans g.os, h.tape.trans g.tape, h.output.trans g.output, Nat.le_trans g.size h.size, fun k hk => (h.block k (Nat.lt_of_lt_of_le hk g.size) fun hb => by have := hB k hb; omega).trans (g.block hk)⟩
theorem gb_only {B : Nat → Prop} {w0 w w' : World} {b : Nat} (h : GB B w0 w) (hg : w.grownBy w' (some b)) (hb : B b ∨ w0.heap.size ≤ b) : GB B w0 w' :=
 ⟨hg.os.trans h.os, hg.tape.trans h.tape, hg.output.trans h.output, Nat.le_trans h.size hg.size, fun k hk hn => (hg.block k (Nat.lt_of_lt_of_le hk h.size) (fun e => by
  injection e with e; subst e
  rcases hb with hb | hb
  ·exact hn hb
  ·omega)).trans (h.block k hk hn)⟩
theorem newge {a w w1 : World} {b : Nat} {e : TypeId} {l : List Value} (h : New w w1 b e l) (g : a.heap.size ≤ w.heap.size) : a.heap.size ≤ b := by have := h.at_; omega
structure GI (n : Nat) (w w' : World) : Prop where
 below : Below n w w'
 cells : ∀ (k : Nat) (o : Obj), w.heap[k]? = some o → o.isCells = true → w'.heap[k]? = some o
theorem GI.refl (n : Nat) (w : World) : GI n w w := ⟨Below.refl _ _, fun _ _ h _ => h⟩
theorem GI.trans {n : Nat} {a b c : World} (h : GI n a b) (k : GI n b c) : GI n a c := ⟨h.below.trans k.below, fun i o hi hc => k.cells i o (h.cells i o hi hc) hc⟩
theorem GI.of_g {n : Nat} {a b : World} (h : G a b) (hn : n ≤ a.heap.size) : GI n a b := ⟨Below.mono h hn, fun k o hk _ => (h.block (Array.getElem?_eq_some_iff.1 hk).1).trans hk⟩
theorem GI.mono {n m : Nat} {a b : World} (h : GI n a b) (hm : m ≤ n) : GI m a b := ⟨h.below.mono hm, h.cells⟩
theorem GI.size {n : Nat} {a b : World} (h : GI n a b) : a.heap.size ≤ b.heap.size := h.below.size
theorem Yba {n : Nat} {w : World} {l : Nat} {o : Obj} (o' : Obj) (hl : w.heap[l]? = some o) (ho : o.isCells = false) (hn : n ≤ l) : GI n w (w.putObj l o') :=
 ⟨⟨rfl, rfl, rfl, by simp, fun k hk => World.putObj_heap_other (by omega)⟩, fun k o2 hk hc => by
  by_cases e : k = l
  ·subst e; rw [hl] at hk; injection hk with hk; subst hk; rw [ho] at hc; cases hc
  ·exact (World.putObj_heap_other e).trans hk⟩
theorem g_gi {w0 w w' : World} {n : Nat} (g : G w0 w) (h : GI n w w') (hn : w0.heap.size ≤ n) : G w0 w' := Below.trans g (h.below.mono hn)
theorem Blk.gi {w w' : World} {n b : Nat} {e : TypeId} {l : List Value} (h : Blk w b e l) (g : GI n w w') : Blk w' b e l := g.cells b _ h rfl
theorem cell_gi {w w' : World} {n : Nat} {a : Addr} {v : Value} (h : w.cell? a = some v) (g : GI n w w') : w'.cell? a = some v := by
 obtain ⟨o, ho, hc⟩ := cells_of_cell h
 exact (World.cell?_of_block ((g.cells _ o ho hc).trans ho.symm)).trans h
theorem RowAt.gi {w w' : World} {n b o : Nat} {l : List Value} (h : RowAt w b o l) (g : GI n w w') : RowAt w' b o l := fun j v hj => cell_gi (h j v hj) g
theorem Blk.gb {w w' : World} {B : Nat → Prop} {b : Nat} {e : TypeId} {l : List Value} (h : Blk w b e l) (g : GB B w w') (hb : ¬ B b) : Blk w' b e l := (g.block b h.lt hb).trans h
theorem RowAt.gb {w w' : World} {B : Nat → Prop} {b o : Nat} {l : List Value} (h : RowAt w b o l) (g : GB B w w') (hb : ¬ B b) : RowAt w' b o l := fun j v hj => by
 have h1 := h j v hj
 have hlt := World.block_lt_of_cell? w _ h1
 exact (World.cell?_of_block (g.block b hlt hb)).trans h1
theorem gb_below {B : Nat → Prop} {w A C : World} {m : Nat} (h : GB B w A) (g : Below m A C) (hm : w.heap.size ≤ m) : GB B w C :=
 ⟨g.os.trans h.os, g.tape.trans h.tape, g.output.trans h.output, Nat.le_trans h.size g.size, fun k hk hn => (g.block k (by omega)).trans (h.block k hk hn)⟩
theorem Ylc {β : Type} (f : Nat → β) : ∀ (ids : List Nat) (id : Nat), (ids.map fun i => (i, f i)).lookup id = if id ∈ ids then some (f id) else none
 | [], id => rfl
 | i :: ids, id => by
  rw [List.map_cons, List.lookup_cons]
  by_cases h : id = i
  ·subst h; simp
  ·have : (id == i) = false := by simpa using h
   rw [this, Ylc f ids id]
   simp [h]
def IterOk {α : Type} (P : Program) (gf : Nat) (lb : Array Value) (w : World) (Nb : Nat → Prop) (L : List α) (En : α → World → Array Value → Prop) : Prop :=
 ∀ (l : Nat) (J Jx : List α → World → Prop) (B : Nat → Prop) (W : World), G w W → (∀ k, B k → k < W.heap.size ∧ ¬ Nb k) →
  (∀ pre A C, J pre A → GI W.heap.size A C → J pre C) → (∀ pre A C, Jx pre A → GI W.heap.size A C → Jx pre C) →
  (∀ pre x args A, J pre A → pre ++ [x] <+: L → En x A args → Yld P l args A fun b A' => GB B A A' ∧ ((b = .bool true ∧ J (pre ++ [x]) A') ∨ (b = .bool false ∧ Jx (pre ++ [x]) A'))) →
  J [] W → Ret P gf (#[yldV l] ++ lb) W fun _ W' => GB B W W' ∧ (J L W' ∨ ∃ pre x, pre ++ [x] <+: L ∧ Jx (pre ++ [x]) W')
section
variable {P : Program} {n : Nat} {ds : List Deferred} {N T : DPost} {X : List (Nat × DPost)} {Z : List PanicEntry → DPost} {σ : List Ent} {w : World}
@[reducible] def NoD : DPost := fun _ _ _ => False
@[reducible] def NoZ : List PanicEntry → DPost := fun _ _ _ _ => False
theorem scd_range {α : Type} {g : Operand} {p : Tmp} {assign body : Code} {gf : Nat} {fs lb : Array Value} {Nb Bx : Nat → Prop} {L : List α} {En : α → World → Array Value → Prop}
  (hg : Ev n σ True g (.func (.func gf) #[] lb)) (hgo : goFn P gf = true) (hit : IterOk P gf lb w Nb L En) (hNb : ∀ k, Nb k → k < w.heap.size) (hBx : ∀ k, Bx k → k < w.heap.size ∧ ¬ Nb k)
  (I : List α → World → Prop) (Ix : Code → List α → World → Prop) (ids : List Nat) (hp : Nat.blt p n = true)
  (hI : ∀ pre A C, I pre A → GI w.heap.size A C → I pre C) (hIx : ∀ c pre A C, Ix c pre A → GI w.heap.size A C → Ix c pre C)
  (hEn : ∀ x A args, En x A args → ∃ v, args = #[v]) (hEg : ∀ x A C args, En x A args → GI w.heap.size A C → En x C args)
  (h0 : I [] w)
  (hround : ∀ l pre x v A, I pre A → pre ++ [x] <+: L → En x A #[v] → w.heap.size ≤ A.heap.size → ∀ K : DPost,
   (∀ τ u, G A u → (∀ C, GI w.heap.size u C → I pre C → En x C #[v] → SCD P (some l) n [] body (fun ds a A' => ds = [] ∧ GB Bx C A' ∧ I (pre ++ [x]) A')
    (ids.map fun id => (id, fun ds a A' => ds = [] ∧ GB Bx C A' ∧ Ix (.exit id) (pre ++ [x]) A')) (fun ds a A' => ds = [] ∧ GB Bx C A' ∧ Ix .ret (pre ++ [x]) A') NoZ τ C) → ∀ a, Kn n τ a → K [] a u) →
   SCD P (some l) n [] assign K [] NoD NoZ ((p, True, v) :: σ) A)
  (hdone : ∀ db W, I L W → w.heap.size ≤ db → W.heap[db]? = some (.deferred (some [])) → GB (fun k => Bx k) w W → ∀ a, Kn n σ a → N (markD db :: ds) a W)
  (hstop : ∀ db c pre x W, Ix c (pre ++ [x]) W → pre ++ [x] <+: L → w.heap.size ≤ db → W.heap[db]? = some (.deferred (some [])) → GB (fun k => Bx k) w W → SCD P none n (markD db :: ds) c N X T Z σ W) :
  SCD P none n ds (.rangeFunc g #[p] assign body) N X T Z σ w := fun a ha => by
 refine wpIn_rangeFunc (F := Fence.wide) fun fn _ => ?_
 obtain ⟨rec, hrec⟩ : ∃ rec : LoopState → Option Code → Loop, rec = fun st pe => { state := st, pending := pe, fn, tmps := (wd ds a).tmps, params := #[p], assign, body, defers := w.heap.size } := ⟨_, rfl⟩
 obtain ⟨W1, hW1⟩ : ∃ W1, (w.alloc (.deferred (some []))).alloc (.loop (rec .ready none)) = W1 := ⟨_, rfl⟩
 have g1 : G w W1 := by rw [← hW1]; exact ((Below.refl _ w).alloc (Nat.le_refl _) _).alloc (by simp) _
 have hs1 : W1.heap.size = w.heap.size + 2 := by rw [← hW1]; simp
 have hL1 : W1.heap[w.heap.size + 1]? = some (.loop (rec .ready none)) := by
  rw [← hW1]; have := World.alloc_heap_new (w.alloc (.deferred (some []))) (.loop (rec .ready none)); rwa [World.size_alloc] at this
 have hK1 : W1.heap[w.heap.size]? = some (.deferred (some [])) := by
  rw [← hW1]; exact (Below.heap_alloc _ _ _ (by simp)).trans (World.alloc_heap_new w _)
 refine ⟨w.heap.size + 1, [markD w.heap.size], W1, { target := .fn (.func gf) lb, args := #[yldV (w.heap.size + 1)] }, W1, gf, #[yldV (w.heap.size + 1)] ++ lb, W1, ?_, ?_, (fun _ _ => trivial), ?_, (fun h => by cases h), ?_⟩
 ·rw [← hW1, hrec]; exact run_enterLoop_outer _ _ _ _ _
 ·have hg' : (wd ds a).eval g = .func (.func gf) #[] lb := hg a ha trivial
  simp only [resolve, hg']
  simp [go_sem, yldV]
 ·simp only [invoke]; exact Jrb hgo _ _
 have hBl : ∀ k, Bx k → ¬ k = w.heap.size + 1 := fun k hk e => by have := (hBx k hk).1; omega
 have hBd : ∀ k, Bx k → ¬ k = w.heap.size := fun k hk e => by have := (hBx k hk).1; omega
 refine callsIn_wide.2 (Calls.mono (hit (w.heap.size + 1) (fun pre A => I pre A ∧ A.heap[w.heap.size + 1]? = some (.loop (rec .ready none)) ∧ A.heap[w.heap.size]? = some (.deferred (some [])) ∧ GB Bx w A)
   (fun pre A => ∃ c, Ix c pre A ∧ A.heap[w.heap.size + 1]? = some (.loop (rec .done (some c))) ∧ A.heap[w.heap.size]? = some (.deferred (some [])) ∧ GB Bx w A) (fun k => Bx k ∨ k = w.heap.size + 1) W1 g1
   (fun k hk => ?_) (fun pre A C h hg => ?_) (fun pre A C h hg => ?_) (fun pre x args A h hpre hx => ?_) ⟨hI _ _ _ h0 (GI.of_g g1 (Nat.le_refl _)), hL1, hK1, GB.of_g g1⟩) fun e W' h => ?_)
 ·rcases hk with hk | rfl
  ·exact ⟨by have := (hBx k hk).1; omega, (hBx k hk).2⟩
  ·exact ⟨by omega, fun h => by have := hNb _ h; omega⟩
 ·exact ⟨hI _ _ _ h.1 (hg.mono (by omega)), (hg.below.block _ (by omega)).trans h.2.1, (hg.below.block _ (by omega)).trans h.2.2.1, gb_below h.2.2.2 hg.below (by omega)⟩
 ·obtain ⟨c, h1, h2, h3, h4⟩ := h
  exact ⟨c, hIx _ _ _ _ h1 (hg.mono (by omega)), (hg.below.block _ (by omega)).trans h2, (hg.below.block _ (by omega)).trans h3, gb_below h4 hg.below (by omega)⟩
 ·-- one round
  obtain ⟨v, rfl⟩ := hEn _ _ _ hx
  obtain ⟨hi, hl, hd, hgw⟩ := h
  have hlt : w.heap.size + 1 < A.heap.size := (Array.getElem?_eq_some_iff.1 hl).1
  have hk1 : Kn n ((p, True, v) :: σ) (a.put (some p) v) := ha.put hp (fun _ => rfl) (fun h => absurd trivial h)
  have hy := run_yield (P := P) (args := #[v]) hl (by rw [hrec]; rfl)
  have hy : (Instr.yield (w.heap.size + 1) #[v]).run P A = .ok (.round (w.heap.size + 1) fn (a.put (some p) v).tmps assign body) A := by
   rw [hy, hrec]; simp [Act.put, wd]
  refine ⟨fn, _, assign, body, hy, roundIn_of_wpIn (F := Fence.wide) trivial ?_⟩
  have e1 : ({ tmps := (a.put (some p) v).tmps, defers := [] } : Act) = wd [] (a.put (some p) v) := rfl
  rw [e1]
  have hr0 := hround (w.heap.size + 1) pre x v A hi hpre hx hgw.size (fun ds a u => ds = [] ∧ ∃ τ, Kn n τ a ∧ G A u ∧ ∀ C, GI w.heap.size u C → I pre C → En x C #[v] → SCD P (some (w.heap.size + 1)) n [] body (fun ds a A' => ds = [] ∧ GB Bx C A' ∧ I (pre ++ [x]) A')
    (ids.map fun id => (id, fun ds a A' => ds = [] ∧ GB Bx C A' ∧ Ix (.exit id) (pre ++ [x]) A')) (fun ds a A' => ds = [] ∧ GB Bx C A' ∧ Ix .ret (pre ++ [x]) A') NoZ τ C) (fun τ u h1 h2 a h3 => ⟨rfl, τ, h3, h1, h2⟩) _ hk1
  refine wpIn_mono (F := WF (some (w.heap.size + 1))) hr0 (fun e a2 u q => ?_)
  cases e with
  | normal =>
   obtain ⟨q1, τ, q3, gAu, qb⟩ := q
   replace hi := hI _ _ _ hi (GI.of_g gAu hgw.size)
   replace hx := hEg _ _ _ _ hx (GI.of_g gAu hgw.size)
   replace hl := (gAu.block hlt).trans hl
   replace hd := (gAu.block (by omega)).trans hd
   have hsAu := gAu.size
   replace hgw : GB Bx w u := hgw.trans (GB.of_g gAu)
   replace hlt : w.heap.size + 1 < u.heap.size := by omega
   refine ⟨_, run_beginRound hl (by rw [hrec]), ?_⟩
   have hgi : GI w.heap.size u (u.putObj (w.heap.size + 1) (.loop { rec .ready none with state := .busy })) := Yba _ hl rfl (by omega)
   have hl2 : (u.putObj (w.heap.size + 1) (.loop { rec .ready none with state := .busy })).heap[w.heap.size + 1]? = some (.loop { rec .ready none with state := .busy }) := World.putObj_heap_same hlt
   have hd2 : (u.putObj (w.heap.size + 1) (.loop { rec .ready none with state := .busy })).heap[w.heap.size]? = some (.deferred (some [])) := (World.putObj_heap_other (by omega)).trans hd
   have hb := qb _ hgi (hI _ _ _ hi hgi) (hEg _ _ _ _ hx hgi) _ q3
   have e2 : wd [] (wd [] a2) = a2 := by cases a2; cases q1; rfl
   rw [e2] at hb
   have gw : ∀ C, GB Bx (u.putObj (w.heap.size + 1) (.loop { rec .ready none with state := .busy })) C → ∀ o, GB (fun k => Bx k ∨ k = w.heap.size + 1) A (C.putObj (w.heap.size + 1) o) := fun C hC o => (GB.of_g gAu).trans
    ⟨hC.os, hC.tape, hC.output, by have := hC.size; simp at this ⊢; omega, fun k hk hn => (World.putObj_heap_other (fun e => hn (.inr e))).trans ((hC.block k (by simpa using hk) (fun h => hn (.inl h))).trans (World.putObj_heap_other (fun e => hn (.inr e))))⟩
   have gw2 : ∀ C, GB Bx (u.putObj (w.heap.size + 1) (.loop { rec .ready none with state := .busy })) C → ∀ o, GB Bx w (C.putObj (w.heap.size + 1) o) := fun C hC o =>
    ⟨hC.os.trans hgw.os, hC.tape.trans hgw.tape, hC.output.trans hgw.output, by have := hC.size; have := hgw.size; simp at *; omega, fun k hk hn => (World.putObj_heap_other (by omega)).trans ((hC.block k (by simp; omega) hn).trans ((World.putObj_heap_other (by omega)).trans (hgw.block k hk hn)))⟩
   have fin : ∀ (jump : Option Code) (C : World), GB Bx (u.putObj (w.heap.size + 1) (.loop { rec .ready none with state := .busy })) C →
     (Instr.endRound (w.heap.size + 1) jump).run P C = .ok (.bool jump.isNone) (C.putObj (w.heap.size + 1) (.loop (rec (if jump.isNone then .ready else .done) jump))) ∧
     C.heap[w.heap.size + 1]? = some (.loop { rec .ready none with state := .busy }) ∧
     (C.putObj (w.heap.size + 1) (.loop (rec (if jump.isNone then .ready else .done) jump))).heap[w.heap.size + 1]? = some (.loop (rec (if jump.isNone then .ready else .done) jump)) ∧
     (C.putObj (w.heap.size + 1) (.loop (rec (if jump.isNone then .ready else .done) jump))).heap[w.heap.size]? = some (.deferred (some [])) := fun jump C hC => by
    have hl3 := (hC.block (w.heap.size + 1) (by simp; omega) (fun h => hBl _ h rfl)).trans hl2
    have hd3 := (hC.block w.heap.size (by simp; omega) (fun h => hBd _ h rfl)).trans hd2
    have := run_endRound (P := P) jump hl3
    rw [hrec] at this ⊢
    exact ⟨this, by rw [hrec] at hl3; exact hl3, World.putObj_heap_same (Array.getElem?_eq_some_iff.1 hl3).1, (World.putObj_heap_other (by omega)).trans hd3⟩
   refine wpIn_mono hb (fun e a3 C q => ?_)
   cases e with
   | normal =>
    obtain ⟨_, k1, k2⟩ := q
    obtain ⟨hr, hl3, hl4, hd4⟩ := fin none C k1
    exact ⟨_, _, hr, _, rfl, gw _ k1 _, .inl ⟨rfl, hI _ _ _ k2 (Yba _ hl3 rfl (by omega)), hl4, hd4, gw2 _ k1 _⟩⟩
   | ret =>
    obtain ⟨_, k1, k2⟩ := q
    obtain ⟨hr, hl3, hl4, hd4⟩ := fin (some .ret) C k1
    exact ⟨_, _, hr, _, rfl, gw _ k1 _, .inr ⟨rfl, .ret, hIx _ _ _ _ k2 (Yba _ hl3 rfl (by omega)), hl4, hd4, gw2 _ k1 _⟩⟩
   | exit id =>
    have q : match (ids.map fun id => (id, (fun ds a A' => ds = [] ∧ GB Bx (u.putObj (w.heap.size + 1) (.loop { rec .ready none with state := .busy })) A' ∧ Ix (.exit id) (pre ++ [x]) A' : DPost))).lookup id with | some k => onD k a3 C | none => False := q
    rw [Ylc] at q
    split at q
    ·rename_i k hk
     split at hk
     ·injection hk with hk; subst hk
      obtain ⟨_, k1, k2⟩ := q
      obtain ⟨hr, hl3, hl4, hd4⟩ := fin (some (.exit id)) C k1
      exact ⟨_, _, hr, _, rfl, gw _ k1 _, .inr ⟨rfl, .exit id, hIx _ _ _ _ k2 (Yba _ hl3 rfl (by omega)), hl4, hd4, gw2 _ k1 _⟩⟩
     ·cases hk
    ·exact q.elim
   | goto t => exact q.elim
   | panic ch => exact q.elim
   | outgrown => exact q.elim
  | ret => exact q.elim
  | exit id => exact q.elim
  | goto t => exact q.elim
  | panic ch => exact q.elim
  | outgrown => exact q.elim
 ·-- behind the iterator
  obtain ⟨v, rfl, hgb, h⟩ := h
  have e3 : wd [] ({ wd ds a with defers := [markD w.heap.size] ++ (wd ds a).defers } : Act) = a := ha.strip ds
  have fin : ∀ (st : LoopState) (pe : Option Code), W'.heap[w.heap.size + 1]? = some (.loop (rec st pe)) → GB Bx w W' → GB Bx w (W'.putObj (w.heap.size + 1) (.loop { rec st pe with state := .exhausted })) := fun st pe _ hg =>
   ⟨hg.os, hg.tape, hg.output, by have := hg.size; simp at *; omega, fun k hk hn => (World.putObj_heap_other (by omega)).trans (hg.block k hk hn)⟩
  rcases h with ⟨hi, hl, hd, hg⟩ | ⟨pre, x, hpre, c, hi, hl, hd, hg⟩
  ·refine ⟨none, _, (run_endLoop (P := P) hl (by rw [hrec]; simp)).trans (congrArg (fun x => Result.ok x _) (show (rec .ready none).pending = none by rw [hrec])), ?_⟩
   show N (markD w.heap.size :: ds) (wd [] ({ wd ds a with defers := [markD w.heap.size] ++ (wd ds a).defers } : Act)) _
   rw [e3]
   have := hdone w.heap.size _ (hI _ _ _ hi (Yba (.loop { rec .ready none with state := .exhausted }) hl rfl (by omega))) (Nat.le_refl _) ((World.putObj_heap_other (by omega)).trans hd) (fin _ _ hl hg) a ha
   exact this
  ·refine ⟨some c, _, (run_endLoop (P := P) hl (by rw [hrec]; simp)).trans (congrArg (fun x => Result.ok x _) (show (rec .done (some c)).pending = some c by rw [hrec])), ?_⟩
   have := hstop w.heap.size c pre x _ (hIx _ _ _ _ hi (Yba (.loop { rec .done (some c) with state := .exhausted }) hl rfl (by omega))) hpre (Nat.le_refl _) ((World.putObj_heap_other (by omega)).trans hd) (fin _ _ hl hg) a ha
   exact this
end
end Go.Rk
