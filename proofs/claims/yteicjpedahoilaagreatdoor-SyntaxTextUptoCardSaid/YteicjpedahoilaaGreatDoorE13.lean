/- Merged texts of one road: Tpd, Tpe, Tpf, Tpg, Tph, Tpi, ScanR. Conditions: each text's own. -/
import Derived.Test.YteicjpedahoilaaGreatDoorE12
import Derived.Test.YteicjpedahoilaaGreatDoorE04
import Derived.Test.YteicjpedahoilaaGreatDoorE03
set_option linter.unusedSimpArgs false
set_option linter.unusedVariables false
namespace Go.Rk
open Go Go.RowKit
set_option linter.unusedVariables false
theorem Yvc {a : Bs} {c : UInt8} (h : hd a = c) (hc : c ≠ 45 ∧ c ≠ 33 ∧ c ≠ 60) : hd a ≠ 45 ∧ hd a ≠ 33 ∧ hd a ≠ 60 := by rw [h]; exact hc
theorem atom_s {x : Nd} {a r : Bs} {f : Nat} (h1 : hd (a ++ r) ≠ 45) (h2 : hd (a ++ r) ≠ 33) (h3 : hd (a ++ r) ≠ 60) (hf : 1 ≤ f) (h : atP (pG (f - 1)) (a ++ r) = some (x, r)) : pG f .u (a ++ r) = pG (f - 1) (.s x) r := by
 obtain ⟨f, rfl⟩ : ∃ g, f = g + 1 := ⟨f - 1, by omega⟩
 rw [show f + 1 - 1 = f from rfl] at h ⊢
 rw [pG_u]
 rw [un_at h1 h2 h3, h]; rfl
theorem Wb {t : Nd} {k : Int} (h : t.kind = k) (hk : k ≠ 24 ∧ k ≠ 25) : stripT t = nd k t.text 0 (t.kids.map stripT) := by rw [strip_nd (counts_not (by omega) (by omega)), h]
theorem Vb {t : Nd} {k : Int} (hp : permF t = true) (h : t.kind = k) (hk : (anyK [2, 3, 4, 6, 11, 28, 27, 34, 8, 31, 32, 7] k) = false) : t.text = [] := by
 have hn := anyK_false hk
 simp only [List.mem_cons, List.not_mem_nil, or_false, not_or] at hn
 refine plain_of hp ?_ (by omega) (by omega) (by omega)
 rw [h, ← Bool.not_eq_true]
 intro e
 have e := (Jma _ _).1 e
 simp only [List.mem_cons, List.not_mem_nil, or_false] at e
 omega
theorem Uya {t : Nd} (h : t.kids.length = 0) : t.kids.map stripT = [] := by rw [List.length_eq_zero_iff.1 h]; rfl
theorem sl24 {t : Nd} (h : t.kind = 24 ∨ t.kind = 25 ∨ t.kind = 26 ∨ t.kind = 27 ∨ t.kind = 34) (hx : exprB t = true) : t.kids.length = 0 := by
 rw [← Ve] at hx; unfold Wx at hx
 rcases h with h | h | h | h | h <;> rw [h] at hx
 ·have hx : ((plainB t && lenK t 0) && decide (0 ≤ t.num)) = true := hx
  simp only [Bool.and_eq_true] at hx; exact (by have := hx.1.2; unfold lenK at this; have := of_decide_eq_true this; omega)
 ·have hx : ((plainB t && lenK t 0) && (decide (t.num = 0) || decide (t.num = 1))) = true := hx
  simp only [Bool.and_eq_true] at hx; exact (by have := hx.1.2; unfold lenK at this; have := of_decide_eq_true this; omega)
 ·have hx : (plainB t && lenK t 0) = true := hx
  simp only [Bool.and_eq_true] at hx; exact (by have := hx.2; unfold lenK at this; have := of_decide_eq_true this; omega)
 ·have hx : (nameB t.text && lenK t 0) = true := hx
  simp only [Bool.and_eq_true] at hx; exact (by have := hx.2; unfold lenK at this; have := of_decide_eq_true this; omega)
 ·have hx : (nameB t.text && lenK t 0) = true := hx
  simp only [Bool.and_eq_true] at hx; exact (by have := hx.2; unfold lenK at this; have := of_decide_eq_true this; omega)
theorem rx_s {t : Nd} (ih : ∀ i, i < t.kids.length → Rx (kidAt t i)) (ok : okNd t) (hx : exprB t = true) (h31 : t.kind ≠ 31) (h32 : t.kind ≠ 32) (h33 : t.kind ≠ 33) (k : Nat) (r : Bs) (f : Nat) (hr : nb r = true) (hf : 10 * count t ≤ f + 4) : ∃ f', f + 4 ≤ f' + 10 * count t ∧ pG f .u ((txT t).ex k ++ r) = pG f' (.s (stripT t)) r := by
 have hp : permF t = true := (Bool.and_eq_true_iff.1 hx).2
 have hc := Wg t
 have hs := Jva t k r hx hr
 rw [tx_ex] at hs ⊢
 have one : ∀ (a : Bs), exX t (txX t) (t.kids.map txT) k = a → (a = [] ∨ (hd (a ++ r) ≠ 45 ∧ hd (a ++ r) ≠ 33 ∧ hd (a ++ r) ≠ 60 → atP (pG (f - 1)) (a ++ r) = some (stripT t, r))) → a ≠ [] → hd a ≠ 45 ∧ hd a ≠ 33 ∧ hd a ≠ 60 → ∃ f', f + 4 ≤ f' + 10 * count t ∧ pG f .u (exX t (txX t) (t.kids.map txT) k ++ r) = pG f' (.s (stripT t)) r := by
  intro a e h1 h2 h3
  rcases h1 with h1 | h1
  ·exact absurd h1 h2
  have e3 : hd (a ++ r) = hd a := by cases a with
   | nil => exact absurd rfl h2
   | cons c a => rfl
  rw [e]
  refine ⟨f - 1, by omega, atom_s (by rw [e3]; exact h3.1) (by rw [e3]; exact h3.2.1) (by rw [e3]; exact h3.2.2) (by omega) (h1 (by rw [e3]; exact h3))⟩
 have word : ∀ (n : Bs), n.all alB = true → n ≠ [] → hd n ≠ 45 ∧ hd n ≠ 33 ∧ hd n ≠ 60 := fun n h hn => by
  have := Ytc (r := []) h hn
  rw [List.append_nil] at this
  exact ⟨Wob this (by decide), Wob this (by decide), Wob this (by decide)⟩
 rcases Ysc hx with h | h | h | h | h | h | h | h | h | h | h | h | h | h | h
 ·-- a number
  have hl := sl24 (.inl h) hx
  have h0 := sh24 h hx
  have hok : rng t.num := by rw [Zdb] at ok; exact ok.2.1
  unfold rng at hok
  refine one _ (Yrc h) (.inr fun _ => ?_) ((Xha 20 _).2 (by decide)) (word _ (digL_al _) ((Xha 20 _).2 (by decide)))
  obtain ⟨w1, w2⟩ := dg_run (n := digL t.num.toNat) (r := r) (Xha 20 _).1 hr
  rw [atP, Jc (Wob (dg_al (digL_hd _ r)) (by decide))]
  dsimp only
  rw [digL_hd, cond_true, w1, w2, valN_digL (by omega), Um, numS, Vj, h, Uya hl, Vb hp h (by decide)]
  rw [show ((t.num.toNat : Nat) : Int) = t.num by omega]; rfl
 ·have hl := sl24 (.inr (.inl h)) hx
  have hn := sh25 h hx
  have es : stripT t = nd 25 [] t.num [] := by rw [Um, numS, Vj, h, Uya hl, Vb hp h (by decide)]; rfl
  rw [Vwb h] at one
  rw [Vwb h]
  cases hb : decide (t.num = 1)
  ·have hn0 : t.num = 0 := by have := of_decide_eq_false hb; omega
   rw [hb] at one
   refine one [102, 97, 108, 115, 101] rfl (.inr fun _ => ?_) (by decide) (by decide)
   obtain ⟨w1, w2⟩ := Vt (n := [102, 97, 108, 115, 101]) (r := r) (by decide) hr
   rw [es, hn0, atP, show cut [40] ([102, 97, 108, 115, 101] ++ r) = none from rfl]
   dsimp only
   rw [w1, w2]; rfl
  ·have hn0 : t.num = 1 := of_decide_eq_true hb
   rw [hb] at one
   refine one [116, 114, 117, 101] rfl (.inr fun _ => ?_) (by decide) (by decide)
   obtain ⟨w1, w2⟩ := Vt (n := [116, 114, 117, 101]) (r := r) (by decide) hr
   rw [es, hn0, atP, show cut [40] ([116, 114, 117, 101] ++ r) = none from rfl]
   dsimp only
   rw [w1, w2]; rfl
 ·have hl := sl24 (.inr (.inr (.inl h))) hx
  refine one _ (exX_26 h) (.inr fun _ => ?_) (by decide) (by decide)
  obtain ⟨w1, w2⟩ := Vt (n := [110, 105, 108]) (r := r) (by decide) hr
  rw [Wb h (by omega), Uya hl, Vb hp h (by decide), atP, show cut [40] ([110, 105, 108] ++ r) = none from rfl]
  dsimp only
  rw [w1, w2]; rfl
 ·have hl := sl24 (.inr (.inr (.inr (.inl h)))) hx
  have hn := Qp hp (by rw [h]; decide)
  obtain ⟨q1, ⟨a, l, q2, _⟩, _⟩ := Qh hn
  have q3 : t.text ≠ [] := by rw [q2]; simp
  refine one _ (exX_27 h) (.inr fun _ => ?_) q3 (word _ q1 q3)
  rw [at_name hn hr, Wb h (by omega), Uya hl]
 ·have hl := sl24 (.inr (.inr (.inr (.inr h)))) hx
  have hn := Qp hp (by rw [h]; decide)
  obtain ⟨q1, _, _⟩ := Qh hn
  refine one _ (exX_34 h) (.inr fun _ => ?_) (by simp) (Yvc (c := 110) rfl (by decide))
  obtain ⟨w1, w2⟩ := Vt (n := [110, 101, 119]) (r := [40] ++ (t.text ++ ([41] ++ r))) (by decide) rfl
  obtain ⟨v1, v2⟩ := Vt (n := t.text) (r := [41] ++ r) q1 rfl
  rw [show (([110, 101, 119, 40] ++ t.text) ++ [41]) ++ r = [110, 101, 119] ++ ([40] ++ (t.text ++ ([41] ++ r))) by simp]
  rw [Wb h (by omega), Uya hl, atP, show cut [40] ([110, 101, 119] ++ ([40] ++ (t.text ++ ([41] ++ r)))) = none from rfl]
  dsimp only
  rw [w1, w2, Xg, show dgB (hd ([110, 101, 119] ++ ([40] ++ (t.text ++ ([41] ++ r))))) = false from rfl]
  simp only [cond_false, Option.bind_some]
  rw [v1, v2, Xg]; rfl
 ·obtain ⟨_, hl, he⟩ := sh28 h hx
  have hn := Qp hp (by rw [h]; decide)
  obtain ⟨q1, _, _⟩ := Qh hn
  have hcn := cn1 hl
  rw [exX_28 h, basX, Xm (by omega)]
  simp only [List.append_assoc]
  obtain ⟨f', e1, e2⟩ := rd_base (ih 0 (by omega)) he rfl k ([46] ++ (t.text ++ r)) f rfl (by omega)
  obtain ⟨g, rfl⟩ : ∃ g, f' = g + 1 := ⟨f' - 1, by omega⟩
  obtain ⟨w1, w2⟩ := Vt (n := t.text) (r := r) q1 hr
  refine ⟨g, by omega, ?_⟩
  rw [e2]
  rw [pG_s]
  rw [sfP, Xg]
  dsimp only
  rw [w1, w2, Wb h (by omega), st1 hl]
 ·obtain ⟨hl, he, he1⟩ := sh29 h hx
  have hcn := cn2 hl
  rw [exX_29 h, basX, Xm (by omega), Xm (by omega)]
  simp only [List.append_assoc]
  obtain ⟨f', e1, e2⟩ := rd_base (ih 0 (by omega)) he rfl k ([91] ++ ((txT (kidAt t 1)).ex k ++ ([93] ++ r))) f rfl (by omega)
  obtain ⟨g, rfl⟩ : ∃ g, f' = g + 1 := ⟨f' - 1, by omega⟩
  refine ⟨g, by omega, ?_⟩
  rw [e2]
  rw [pG_s]
  rw [sfP, show cut [46] ([91] ++ ((txT (kidAt t 1)).ex k ++ ([93] ++ r))) = none from rfl, Xg]
  dsimp only
  rw [(ih 1 (by omega)).e he1 k ([93] ++ r) g rfl rfl (by omega), Option.bind_some]
  dsimp only
  rw [Xg, Option.bind_some, Wb h (by omega), st2 hl, Vb hp h (by decide)]
 ·obtain ⟨hl, he⟩ := sh30 h hx
  have hk0 : t.kids = kidAt t 0 :: t.kids.drop 1 := by
   match hk : t.kids with
   | [] => rw [hk] at hl; simp at hl
   | a :: l => rw [kidAt, hk]; rfl
  have hcn : count t = 1 + count (kidAt t 0) + ((t.kids.drop 1).map count).sum := by
   rw [Ww]; conv => lhs; rw [hk0]
   simp only [List.map_cons, List.sum_cons]; omega
  have em : (((t.kids.map txT).drop 1).map fun y => y.ex k) = (t.kids.drop 1).map fun y => (txT y).ex k := by
   rw [← List.map_drop, List.map_map]; rfl
  rw [exX_30 h, em, basX, Xm (by omega)]
  simp only [List.append_assoc]
  obtain ⟨f', e1, e2⟩ := rd_base (ih 0 (by omega)) (Vu he (by omega)) rfl k ([40] ++ (joinX ((t.kids.drop 1).map fun y => (txT y).ex k) ++ ([41] ++ r))) f rfl (by omega)
  obtain ⟨g, rfl⟩ : ∃ g, f' = g + 1 := ⟨f' - 1, by omega⟩
  refine ⟨g, by omega, ?_⟩
  rw [e2]
  have ea : pG g (.a []) (joinX ((t.kids.drop 1).map fun y => (txT y).ex k) ++ ([41] ++ r)) = some (nd 0 [] 0 ((t.kids.drop 1).map stripT), r) := by
   by_cases hn : t.kids.drop 1 = []
   ·rw [hn]
    obtain ⟨g, rfl⟩ : ∃ q, g = q + 1 := ⟨g - 1, by omega⟩
    rw [pG_a]
    show arP (pG g) [] ([41] ++ r) = _
    rw [arP, Xg]; rfl
   ·have := rd_args k r (t.kids.drop 1) [] g hn (fun y hy => by
     have hy := List.mem_of_mem_drop hy
     obtain ⟨i, hi, rfl⟩ := List.getElem_of_mem hy
     rw [← Xu hi]; exact ⟨ih i hi, Vu he hi⟩) (by omega)
    rw [this]; rfl
  rw [pG_s]
  rw [sfP, show cut [46] ([40] ++ (joinX ((t.kids.drop 1).map fun y => (txT y).ex k) ++ ([41] ++ r))) = none from rfl, show cut [91] ([40] ++ (joinX ((t.kids.drop 1).map fun y => (txT y).ex k) ++ ([41] ++ r))) = none from rfl, Xg]
  dsimp only
  rw [ea, Option.bind_some, Wb h (by omega), Vb hp h (by decide)]
  conv => rhs; rw [hk0]
  rfl
 ·exact absurd h h31
 ·exact absurd h h33
 ·exact absurd h h32
 ·obtain ⟨hl, he⟩ := sh35 h hx
  have hcn := cn1 hl
  refine one _ (exX_35 h) (.inr fun _ => ?_) (by simp) (Yvc (c := 109) rfl (by decide))
  rw [Xm (by omega)]
  rw [show (([109, 97, 107, 101, 40, 91, 93, 105, 110, 116, 44, 32] ++ (txT (kidAt t 0)).ex k) ++ [41]) ++ r = [109, 97, 107, 101] ++ ([40, 91, 93, 105, 110, 116, 44, 32] ++ ((txT (kidAt t 0)).ex k ++ ([41] ++ r))) by simp]
  obtain ⟨w1, w2⟩ := Vt (n := [109, 97, 107, 101]) (r := [40, 91, 93, 105, 110, 116, 44, 32] ++ ((txT (kidAt t 0)).ex k ++ ([41] ++ r))) (by decide) rfl
  rw [Wb h (by omega), st1 hl, Vb hp h (by decide), atP, show cut [40] ([109, 97, 107, 101] ++ ([40, 91, 93, 105, 110, 116, 44, 32] ++ ((txT (kidAt t 0)).ex k ++ ([41] ++ r)))) = none from rfl]
  dsimp only
  rw [w1, w2, show dgB (hd ([109, 97, 107, 101] ++ ([40, 91, 93, 105, 110, 116, 44, 32] ++ ((txT (kidAt t 0)).ex k ++ ([41] ++ r))))) = false from rfl]
  have hee := (ih 0 (by omega)).e he k ([41] ++ r) (f - 1) rfl rfl (by omega)
  simp only [Xg, hee, Option.bind_some, Option.map_some]; rfl
 ·obtain ⟨hl, he⟩ := sh36 h hx
  have hcn := cn1 hl
  refine one _ (exX_36 h) (.inr fun _ => ?_) (by simp) (Yvc (c := 109) rfl (by decide))
  rw [Xm (by omega)]
  rw [show (([109, 97, 107, 101, 40, 99, 104, 97, 110, 32, 105, 110, 116, 44, 32] ++ (txT (kidAt t 0)).ex k) ++ [41]) ++ r = [109, 97, 107, 101] ++ ([40, 99, 104, 97, 110, 32, 105, 110, 116, 44, 32] ++ ((txT (kidAt t 0)).ex k ++ ([41] ++ r))) by simp]
  obtain ⟨w1, w2⟩ := Vt (n := [109, 97, 107, 101]) (r := [40, 99, 104, 97, 110, 32, 105, 110, 116, 44, 32] ++ ((txT (kidAt t 0)).ex k ++ ([41] ++ r))) (by decide) rfl
  rw [Wb h (by omega), st1 hl, Vb hp h (by decide), atP, show cut [40] ([109, 97, 107, 101] ++ ([40, 99, 104, 97, 110, 32, 105, 110, 116, 44, 32] ++ ((txT (kidAt t 0)).ex k ++ ([41] ++ r)))) = none from rfl]
  dsimp only
  rw [w1, w2, show dgB (hd ([109, 97, 107, 101] ++ ([40, 99, 104, 97, 110, 32, 105, 110, 116, 44, 32] ++ ((txT (kidAt t 0)).ex k ++ ([41] ++ r))))) = false from rfl]
  have hee := (ih 0 (by omega)).e he k ([41] ++ r) (f - 1) rfl rfl (by omega)
  have hnc : cut [40, 91, 93, 105, 110, 116, 44, 32] ([40, 99, 104, 97, 110, 32, 105, 110, 116, 44, 32] ++ ((txT (kidAt t 0)).ex k ++ ([41] ++ r))) = none := rfl
  rw [hnc]
  simp only [Xg, hee, Option.bind_some, Option.map_some]; rfl
 ·obtain ⟨hl, he⟩ := sh37 h hx
  have hcn := cn1 hl
  refine one _ (exX_37 h) (.inr fun _ => ?_) (by simp) (Yvc (c := 108) rfl (by decide))
  rw [Xm (by omega)]
  rw [show (([108, 101, 110, 40] ++ (txT (kidAt t 0)).ex k) ++ [41]) ++ r = [108, 101, 110] ++ ([40] ++ ((txT (kidAt t 0)).ex k ++ ([41] ++ r))) by simp]
  obtain ⟨w1, w2⟩ := Vt (n := [108, 101, 110]) (r := [40] ++ ((txT (kidAt t 0)).ex k ++ ([41] ++ r))) (by decide) rfl
  rw [Wb h (by omega), st1 hl, Vb hp h (by decide), atP, show cut [40] ([108, 101, 110] ++ ([40] ++ ((txT (kidAt t 0)).ex k ++ ([41] ++ r)))) = none from rfl]
  dsimp only
  rw [w1, w2, show dgB (hd ([108, 101, 110] ++ ([40] ++ ((txT (kidAt t 0)).ex k ++ ([41] ++ r))))) = false from rfl]
  have hee := (ih 0 (by omega)).e he k ([41] ++ r) (f - 1) rfl rfl (by omega)
  simp only [Xg, hee, Option.bind_some, Option.map_some]; rfl
 ·obtain ⟨hl, hb⟩ := sh38 h hx
  have hcn := cn1 hl
  refine one _ (exX_38 h) (.inr fun _ => ?_) (by simp) (Yvc (c := 102) rfl (by decide))
  rw [Xm (by omega), blkX]
  rw [show ([102, 117, 110, 99, 40, 41, 32] ++ ((([123, 10] ++ (txT (kidAt t 0)).ls (k + 1)) ++ tabsL k) ++ [125])) ++ r = [102, 117, 110, 99] ++ ([40, 41, 32, 123, 10] ++ (((txT (kidAt t 0)).ls (k + 1) ++ tabsL k) ++ ([125] ++ r))) by simp]
  obtain ⟨w1, w2⟩ := Vt (n := [102, 117, 110, 99]) (r := [40, 41, 32, 123, 10] ++ (((txT (kidAt t 0)).ls (k + 1) ++ tabsL k) ++ ([125] ++ r))) (by decide) rfl
  rw [Wb h (by omega), st1 hl, Vb hp h (by decide), atP, show cut [40] ([102, 117, 110, 99] ++ ([40, 41, 32, 123, 10] ++ (((txT (kidAt t 0)).ls (k + 1) ++ tabsL k) ++ ([125] ++ r)))) = none from rfl]
  dsimp only
  rw [w1, w2, show dgB (hd ([102, 117, 110, 99] ++ ([40, 41, 32, 123, 10] ++ (((txT (kidAt t 0)).ls (k + 1) ++ tabsL k) ++ ([125] ++ r))))) = false from rfl]
  have hee := (ih 0 (by omega)).b hb k r (f - 1) (by omega)
  rw [Xg]
  simp only [Option.bind_some]
  rw [hee]; rfl
theorem rx_u {t : Nd} (ih : ∀ i, i < t.kids.length → Rx (kidAt t i)) (ok : okNd t) (hx : exprB t = true) (h32 : t.kind ≠ 32) (k : Nat) (r : Bs) (f : Nat) (hr : folB r = true) (hf : 10 * count t ≤ f + 3) : pG f .u ((txT t).ex k ++ r) = some (stripT t, r) := by
 have hp : permF t = true := (Bool.and_eq_true_iff.1 hx).2
 have hc := Wg t
 by_cases h31 : t.kind = 31
 ·obtain ⟨_, hl, he⟩ := sh31 h31 hx
  have hcn := cn1 hl
  have ht := Yfa hp
  unfold textB' at ht; rw [h31] at ht
  have ht : (decide (t.text = [45]) || decide (t.text = [33])) = true := ht
  simp only [Bool.or_eq_true, decide_eq_true_eq] at ht
  rw [tx_ex, exX_31 h31, oprX, Xm (by omega), List.append_assoc, Wb h31 (by omega), st1 hl]
  obtain ⟨f, rfl⟩ : ∃ g, f = g + 1 := ⟨f - 1, by omega⟩
  have hee := rd_opr (ih 0 (by omega)) he rfl k r f hr (by omega)
  rw [pG_u]
  rcases ht with e | e <;> rw [e]
  ·rw [unP, Xg]; dsimp only; rw [hee]; rfl
  ·rw [unP, show cut [45] ([33] ++ (parX (decide ((kidAt t 0).kind = 32)) ((txT (kidAt t 0)).ex k) ++ r)) = none from rfl, Xg]; dsimp only; rw [hee]; rfl
 by_cases h33 : t.kind = 33
 ·obtain ⟨hl, he⟩ := sh33 h33 hx
  have hcn := cn1 hl
  rw [tx_ex, exX_33 h33, oprX, Xm (by omega), List.append_assoc, Wb h33 (by omega), st1 hl, Vb hp h33 (by decide)]
  obtain ⟨f, rfl⟩ : ∃ g, f = g + 1 := ⟨f - 1, by omega⟩
  have hee := rd_opr (ih 0 (by omega)) he rfl k r f hr (by omega)
  rw [pG_u]
  rw [unP, show cut [45] ([60, 45] ++ (parX (decide ((kidAt t 0).kind = 32)) ((txT (kidAt t 0)).ex k) ++ r)) = none from rfl, show cut [33] ([60, 45] ++ (parX (decide ((kidAt t 0).kind = 32)) ((txT (kidAt t 0)).ex k) ++ r)) = none from rfl, Xg]; dsimp only; rw [hee]; rfl
 obtain ⟨f', e1, e2⟩ := rx_s ih ok hx h31 h32 h33 k r f (folB_iff.1 hr).1 (by omega)
 rw [e2]
 exact sf_stop hr (by omega)
theorem rx_e {t : Nd} (ih : ∀ i, i < t.kids.length → Rx (kidAt t i)) (ok : okNd t) (hx : exprB t = true) (k : Nat) (r : Bs) (f : Nat) (hr : folB r = true) (hop : cutOp r = none) (hf : 10 * count t ≤ f + 2) : pG f .e ((txT t).ex k ++ r) = some (stripT t, r) := by
 have hp : permF t = true := (Bool.and_eq_true_iff.1 hx).2
 have hc := Wg t
 obtain ⟨f, rfl⟩ : ∃ g, f = g + 1 := ⟨f - 1, by omega⟩
 rw [pG_e]
 by_cases h32 : t.kind = 32
 ·obtain ⟨_, hl, he, he1⟩ := sh32 h32 hx
  have hcn := cn2 hl
  have ht := Yfa hp
  unfold textB' at ht; rw [h32] at ht
  have ht : anyS binOps t.text = true := ht
  rw [tx_ex, exX_32 h32, oprX, oprX, Xm (by omega), Xm (by omega), Wb h32 (by omega), st2 hl]
  simp only [List.append_assoc]
  rw [exP, rd_opr (ih 0 (by omega)) he rfl k ([32] ++ (t.text ++ ([32] ++ (parX (decide ((kidAt t 1).kind = 32)) ((txT (kidAt t 1)).ex k) ++ r)))) f rfl (by omega), Option.bind_some]
  dsimp only
  rw [cutOp_app ht]
  dsimp only
  rw [rd_opr (ih 1 (by omega)) he1 rfl k r f hr (by omega)]; rfl
 ·rw [exP, rx_u ih ok hx h32 k r f hr (by omega), Option.bind_some]
  dsimp only
  rw [hop]
end Go.Rk
namespace Go.Rk
open Go Go.RowKit
set_option linter.unusedVariables false
def FolS (r : Bs) : Prop := ∃ c r', r = c :: r' ∧ (c = 10 ∨ c = 58) ∧ cut [32, 58, 61, 32] r = none
theorem folS_nl (r : Bs) : FolS ([10] ++ r) := ⟨10, r, rfl, .inl rfl, rfl⟩
theorem folS_co (r : Bs) : FolS ([58, 10] ++ r) := ⟨58, [10] ++ r, rfl, .inr rfl, rfl⟩
theorem FolS.b {r : Bs} (h : FolS r) : folB r = true ∧ cutOp r = none ∧ nb r = true := by
 obtain ⟨c, r', rfl, h, _⟩ := h
 rcases h with rfl | rfl <;> exact ⟨rfl, rfl, rfl⟩
theorem FolS.sp {r : Bs} (h : FolS r) (q : Bs) : cut (32 :: q) r = none := by
 obtain ⟨c, r', rfl, h, _⟩ := h
 rcases h with rfl | rfl <;> rfl
structure Hs (s : Bs) : Prop where
 a : hd s ≠ 9
 b : hd s ≠ 125
 w : anyS [[99, 97, 115, 101], [100, 101, 102, 97, 117, 108, 116]] (wdF s) = false
theorem Hx.ww {s : Bs} (h : Hx s) {n : Bs} (hn : anyS stW n = true) : decide (wdF s = n) = false := by
 refine decide_eq_false fun e => ?_
 have := h.w
 rw [e, hn] at this; cases this
theorem Hx.hs {s : Bs} (h : Hx s) : Hs s := by
 refine ⟨h.ne (by decide), h.ne (by decide), ?_⟩
 rw [anyS, anyS, h.ww (by decide), h.ww (by decide)]; rfl
theorem Xba {s : Bs} {c : UInt8} (h : hd s = c) (hc : c ≠ 9 ∧ c ≠ 125) (hw : anyS [[99, 97, 115, 101], [100, 101, 102, 97, 117, 108, 116]] (wdF s) = false) : Hs s := ⟨by rw [h]; exact hc.1, by rw [h]; exact hc.2, hw⟩
theorem hs_st {t : Nd} (hx : stmtB t = true) (k : Nat) {r : Bs} (hr : nb r = true) : Hs ((txT t).st k ++ r) := by
 have hp : permF t = true := (Bool.and_eq_true_iff.1 hx).2
 rw [Zqa]
 rcases Vxb hx with h | h | h | h | h | h | h | h | h | h | h | h | h | h
 ·rw [stX_6 h]; exact Xba (c := 118) rfl (by decide) rfl
 ·rw [stX_10 h]; exact Xba (c := 123) rfl (by decide) rfl
 ·rw [stX_11 h, List.append_assoc, List.append_assoc]; exact (hx_name (Qp hp (by rw [h]; decide)) rfl).hs
 ·obtain ⟨hl, he, _⟩ := sh12 h hx
  rw [stX_12 h, Xm (by omega), List.append_assoc, List.append_assoc]; exact (Jva _ k _ he rfl).hs
 ·obtain ⟨hl, he⟩ := sh13 h hx
  rw [stX_13 h, Xm (by omega)]; exact (Jva _ k _ he hr).hs
 ·rw [stX_14 h]; exact Xba (c := 103) rfl (by decide) rfl
 ·rw [stX_15 h]; exact Xba (c := 100) rfl (by decide) rfl
 ·obtain ⟨hl, he, _⟩ := sh16 h hx
  rw [stX_16 h, Xm (by omega), List.append_assoc, List.append_assoc]; exact (Jva _ k _ he rfl).hs
 ·rw [stX_17 h]; exact Xba (c := 99) rfl (by decide) rfl
 ·rw [stX_21 h]; exact Xba (c := 112) rfl (by decide) rfl
 ·rw [stX_18 h]; exact Xba (c := 105) rfl (by decide) rfl
 ·rw [stX_22 h]; exact Xba (c := 115) rfl (by decide) rfl
 ·rw [stX_20 h]
  cases lenK t 0
  ·exact Xba (c := 114) rfl (by decide) rfl
  ·obtain ⟨w1, _⟩ := Vt (n := [114, 101, 116, 117, 114, 110]) (r := r) (by decide) hr
   exact Xba (c := 114) rfl (by decide) (by rw [cond_true, w1]; rfl)
 ·rw [stX_19 h]
  cases decide ((kidAt t 0).kind = 9)
  ·exact Xba (c := 102) rfl (by decide) rfl
  ·exact Xba (c := 102) rfl (by decide) rfl
theorem Jhb (k : Nat) {s : Bs} (h : hd s ≠ 9) : tabsP (tabsL k ++ s) = s := by
 induction k with
 | zero =>
  cases s with
  | nil => rfl
  | cons a s => exact List.dropWhile_cons_of_neg (by simpa [hd] using h)
 | succ k ih =>
  rw [show tabsL (k + 1) = 9 :: tabsL k from List.replicate_succ, List.cons_append, tabsP, List.dropWhile_cons_of_pos (by rfl)]; exact ih
theorem Jib (k : Nat) (r : Bs) : tabsP (tabsL k ++ ([125] ++ r)) = [125] ++ r := Jhb k (show (125 : UInt8) ≠ 9 by decide)
theorem tabs_two (s : Bs) : tabsP (tabsP s) = tabsP s := by
 induction s with
 | nil => rfl
 | cons a s ih =>
  cases h : decide (a = 9)
  ·rw [tabsP, tabsP, List.dropWhile_cons_of_neg (by simpa using h), List.dropWhile_cons_of_neg (by simpa using h)]
  ·rw [show tabsP (a :: s) = tabsP s from List.dropWhile_cons_of_pos (by simpa using h)]; exact ih
structure Rs (t : Nd) : Prop extends Rx t where
 st : stmtB t = true → ∀ k r f, FolS r → 10 * count t ≤ f + 1 → pG f .t ((txT t).st k ++ r) = some (stripT t, r)
 i : ifB t = true → ∀ k r s f, FolS r → (txT t).st k = [105, 102, 32] ++ s → 10 * count t ≤ f + 2 → pG f .i (s ++ r) = some (stripT t, r)
theorem rd_lines (k : Nat) (z : Bs) (hz : stopB (tabsP z) = true) : ∀ (l acc : List Nd) (f : Nat), (∀ y ∈ l, Rs y ∧ stmtB y = true) → 10 * (l.map count).sum + 1 ≤ f → pG f (.l acc) ((l.flatMap fun c => (tabsL k ++ (txT c).st k) ++ [10]) ++ z) = some (nd 10 [] 0 (acc ++ l.map stripT), tabsP z) := by
 intro l
 induction l with
 | nil =>
  intro acc f _ hf
  obtain ⟨f, rfl⟩ : ∃ g, f = g + 1 := ⟨f - 1, by omega⟩
  show pG (f + 1) (.l acc) z = _
  rw [pG_l]
  rw [lnP, hz, cond_true, List.map_nil, List.append_nil]
 | cons y l ih =>
  intro acc f hl hf
  obtain ⟨hy, hx⟩ := hl y List.mem_cons_self
  simp only [List.map_cons, List.sum_cons] at hf
  have hc := Wg y
  obtain ⟨f, rfl⟩ : ∃ g, f = g + 1 := ⟨f - 1, by omega⟩
  have hh := hs_st hx k (r := [10] ++ ((l.flatMap fun c => (tabsL k ++ (txT c).st k) ++ [10]) ++ z)) rfl
  have e : ((y :: l).flatMap fun c => (tabsL k ++ (txT c).st k) ++ [10]) ++ z = tabsL k ++ ((txT y).st k ++ ([10] ++ ((l.flatMap fun c => (tabsL k ++ (txT c).st k) ++ [10]) ++ z))) := by simp
  have hstop : stopB ((txT y).st k ++ ([10] ++ ((l.flatMap fun c => (tabsL k ++ (txT c).st k) ++ [10]) ++ z))) = false := by
   rw [stopB, decide_eq_false hh.b, hh.w]; rfl
  rw [e]
  rw [pG_l]
  rw [lnP, Jhb k hh.a, hstop, cond_false, hy.st hx k _ f (folS_nl _) (by omega), Option.bind_some]
  dsimp only
  rw [Xg, Option.bind_some, ih (acc ++ [stripT y]) f (fun u hu => hl u (List.mem_cons_of_mem _ hu)) (by omega)]
  simp
theorem rd_blk {t : Nd} (ih : ∀ y ∈ t.kids, Rs y) (hb : blockB t = true) (k : Nat) (r : Bs) (f : Nat) (hf : 10 * count t ≤ f + 2) : pG f .b (((txT t).ls (k + 1) ++ tabsL k) ++ ([125] ++ r)) = some (stripT t, r) := by
 have hp : permF t = true := (Bool.and_eq_true_iff.1 hb).2
 have hk := Yca hb
 have hall := sh10 hb
 have hcn := Ww t
 obtain ⟨f, rfl⟩ : ∃ g, f = g + 1 := ⟨f - 1, by omega⟩
 rw [pG_b]
 rw [List.append_assoc, Unb, blP', rd_lines (k + 1) (tabsL k ++ ([125] ++ r)) (by rw [Jib k]; rfl) t.kids [] f (fun y hy => ⟨ih y hy, List.all_eq_true.1 hall y hy⟩) (by omega), Option.bind_some]
 dsimp only
 rw [Jib k, Xg, Wb hk (by omega), Vb hp hk (by decide)]; rfl
theorem rd_ty {t : Nd} (h : isTypeB t = true) {r : Bs} (hr : nb r = true) : tyP (typeX t ++ r) = some (stripT t, r) := by
 have hl := typ_len h
 have hp : permF t = true := by rw [Xxa, Bool.and_eq_true] at h; exact h.2
 unfold isTypeB at h
 cases h1 : decide (t.kind = 8)
 ·rw [h1] at h
  cases h2 : decide (t.kind = 7)
  ·rw [h2] at h; cases h
  ·rw [h2] at h
   have h2 := of_decide_eq_true h2
   have h : (typeNameB t.text && leafB t) = true := h
   have h3 := (Ypa _ _).1 (Bool.and_eq_true_iff.1 h).1
   rw [Wb h2 (by omega), Uya hl]
   have e8 : decide (t.kind = 8) = false := h1
   have go : ∀ n : Bs, n.all alB = true → t.text = n → n ≠ [99, 104, 97, 110] → n ≠ [102, 117, 110, 99] → hd n ≠ 42 → hd n ≠ 91 → n ≠ [] → tyP (typeX t ++ r) = some (nd 7 t.text 0 [], r) := by
    intro n hn e q1 q2 q3 q4 q5
    have eh : hd (n ++ r) = hd n := by cases n with
     | nil => exact absurd rfl q5
     | cons a n => rfl
    obtain ⟨w1, w2⟩ := Vt hn hr
    rw [typeX, e8, cond_false, e, decide_eq_false q1, cond_false, decide_eq_false q2, cond_false, tyP, Jc (by rw [eh]; exact q3)]
    dsimp only
    rw [Jc (by rw [eh]; exact q4)]
    dsimp only
    rw [w1, w2, decide_eq_false q1, cond_false, decide_eq_false q2, cond_false]
   simp only [Ul, List.mem_cons, List.not_mem_nil, or_false] at h3
   rcases h3 with e | e | e | e | e | e | e | e | e | e
   all_goals first
    | exact go _ (by decide) e (by decide) (by decide) (by decide) (by decide) (by decide)
    | (rw [typeX, e8, cond_false, e]; rfl)
 ·rw [h1] at h
  have h1' := of_decide_eq_true h1
  have h : (nameB t.text && leafB t) = true := h
  obtain ⟨q1, _, _⟩ := Qh (Bool.and_eq_true_iff.1 h).1
  obtain ⟨w1, w2⟩ := Vt q1 hr
  rw [Wb h1' (by omega), Uya hl, typeX, h1, cond_true, List.append_assoc, tyP, Xg]
  dsimp only
  rw [w1, w2]
theorem Xza {t : Nd} (h : noneB t = true) : stripT t = nd 9 [] 0 [] := by
 obtain ⟨h1, h2, h3⟩ := Qn h
 rw [Wb h1 (by omega), h2, Uya h3]
section
variable {p : Md → Bs → Option (Nd × Bs)}
theorem Zjb {s : Bs} (h : Hx s) : stP p s = simP p s := by
 rw [stP, Jc (h.ne (by decide))]
 dsimp only
 rw [h.ww (by decide), cond_false, h.ww (by decide), cond_false, h.ww (by decide), cond_false, h.ww (by decide), cond_false, h.ww (by decide), cond_false, h.ww (by decide), cond_false, h.ww (by decide), cond_false, h.ww (by decide), cond_false, h.ww (by decide), cond_false]
end
theorem rd_nm {n r : Bs} (h : nameB n = true) (hr : folB r = true) (ho : cutOp r = none) {f : Nat} (hf : 3 ≤ f) : pG f .e (n ++ r) = some (nd 27 n 0 [], r) := by
 obtain ⟨f, rfl⟩ : ∃ g, f = g + 3 := ⟨f - 3, by omega⟩
 obtain ⟨h1, ⟨a, l, e, ha⟩, h3⟩ := Qh h
 have hh : alB (hd (n ++ r)) = true := Ytc h1 (by rw [e]; simp)
 have hu : pG (f + 2) .u (n ++ r) = some (nd 27 n 0 [], r) := by
  rw [pG_u]
  rw [un_at (Wob hh (by decide)) (Wob hh (by decide)) (Wob hh (by decide)), at_name h (folB_iff.1 hr).1, Option.bind_some]
  exact sf_stop hr (by omega)
 rw [pG_e]
 rw [exP, hu, Option.bind_some]
 dsimp only
 rw [ho]
theorem rd_var {t : Nd} (hx : varB t = true) (h1 : exprB (kidAt t 1) = true → Rx (kidAt t 1)) (k : Nat) (r : Bs) (f : Nat) (hr : FolS r) (hf : 10 * count t ≤ f + 4) : varP (pG f) ([32] ++ (t.text ++ ([32] ++ (typeX (kidAt t 0) ++ ((bif decide ((kidAt t 1).kind = 9) then [] else [32, 61, 32] ++ (txT (kidAt t 1)).ex k) ++ r))))) = some (stripT t, r) := by
 have hp : permF t = true := (Bool.and_eq_true_iff.1 hx).2
 have hk : t.kind = 6 := of_decide_eq_true (Bool.and_eq_true_iff.1 hx).1
 obtain ⟨_, hl, hty, hv⟩ := sh6 hx
 have hcn := cn2 hl
 have hn := Qp hp (by rw [hk]; decide)
 obtain ⟨q1, _, _⟩ := Qh hn
 obtain ⟨w1, w2⟩ := Vt (n := t.text) (r := [32] ++ (typeX (kidAt t 0) ++ ((bif decide ((kidAt t 1).kind = 9) then [] else [32, 61, 32] ++ (txT (kidAt t 1)).ex k) ++ r))) q1 rfl
 have hnb : nb ((bif decide ((kidAt t 1).kind = 9) then [] else [32, 61, 32] ++ (txT (kidAt t 1)).ex k) ++ r) = true := by
  cases decide ((kidAt t 1).kind = 9)
  ·rfl
  ·exact hr.b.2.2
 rw [varP, Xg, Option.bind_some, w2, Xg, Option.bind_some, rd_ty hty hnb, Option.bind_some]
 dsimp only
 rw [w1, Wb hk (by omega), st2 hl]
 cases hb : decide ((kidAt t 1).kind = 9)
 ·rw [cond_false, List.append_assoc, Xg]
  dsimp only
  have he : exprB (kidAt t 1) = true := hv.elim (fun h => absurd (Qn h).1 (of_decide_eq_false hb)) id
  rw [(h1 he).e he k r f hr.b.1 hr.b.2.1 (by omega)]; rfl
 ·rw [cond_true, List.nil_append, hr.sp]
  dsimp only
  have he : noneB (kidAt t 1) = true := hv.elim id fun h => absurd (of_decide_eq_true hb) (Yjb h)
  rw [Xza he]
end Go.Rk
namespace Go.Rk
open Go Go.RowKit
set_option linter.unusedVariables false
theorem Ywc (t : Nd) (k : Nat) (r : Bs) : blkX (txT t) k ++ r = [123, 10] ++ (((txT t).ls (k + 1) ++ tabsL k) ++ ([125] ++ r)) := by simp [blkX]
theorem br_rd (p : Md → Bs → Option (Nd × Bs)) (s : Bs) : brP p ([123, 10] ++ s) = p .b s := by rw [brP, Xg]; rfl
theorem ok_at {t : Nd} (hk : okNd t) {i : Nat} (h : i < t.kids.length) : okNd (kidAt t i) := by rw [Xu h]; exact Vc hk (List.getElem_mem h)
theorem tabs_case (k : Nat) (s : Bs) : tabsP (tabsL k ++ ([99, 97, 115, 101, 32] ++ s)) = [99, 97, 115, 101, 32] ++ s := Jhb k (show (99 : UInt8) ≠ 9 by decide)
theorem tabs_deft (k : Nat) (s : Bs) : tabsP (tabsL k ++ ([100, 101, 102, 97, 117, 108, 116, 58, 10] ++ s)) = [100, 101, 102, 97, 117, 108, 116, 58, 10] ++ s := Jhb k (show (100 : UInt8) ≠ 9 by decide)
def ifY (t : Nd) (k : Nat) : Bs := ((txX t 0).ex k ++ ([32] ++ blkX (txX t 1) k)) ++ (bif decide ((kidAt t 2).kind = 10) then [32, 101, 108, 115, 101, 32] ++ blkX (txX t 2) k else bif decide ((kidAt t 2).kind = 18) then [32, 101, 108, 115, 101, 32] ++ (txX t 2).st k else [])
theorem ifY_eq {t : Nd} (h : t.kind = 18) (k : Nat) : (txT t).st k = [105, 102, 32] ++ ifY t k := by
 rw [Zqa, stX_18 h, ifX, ifY]; simp only [List.append_assoc]
theorem if_cut {t : Nd} {k : Nat} {s : Bs} (h : t.kind = 18) (e : (txT t).st k = [105, 102, 32] ++ s) : s = ifY t k := List.append_cancel_left (e.symm.trans (ifY_eq h k))
theorem ih_k {t : Nd} (ih : ∀ y, count y < count t → okNd y → Rs y) (ok : okNd t) {i : Nat} (h : i < t.kids.length) : Rs (kidAt t i) := by
 have := Xf h
 exact ih _ this (ok_at ok h)
theorem rs_i {t : Nd} (ih : ∀ y, count y < count t → okNd y → Rs y) (ok : okNd t) (hb : ifB t = true) (k : Nat) (r : Bs) (f : Nat) (hr : FolS r) (hf : 10 * count t ≤ f + 2) : pG f .i (ifY t k ++ r) = some (stripT t, r) := by
 have hp : permF t = true := (Bool.and_eq_true_iff.1 hb).2
 have hk : t.kind = 18 := of_decide_eq_true (Bool.and_eq_true_iff.1 hb).1
 obtain ⟨hl, he, hb1, h2⟩ := sh18 hb
 have hcn := cn3 hl
 have r0 := ih_k ih ok (i := 0) (by omega)
 have r1 := ih_k ih ok (i := 1) (by omega)
 have r2 := ih_k ih ok (i := 2) (by omega)
 have c1 := Wg (kidAt t 1)
 obtain ⟨f, rfl⟩ : ∃ g, f = g + 1 := ⟨f - 1, by omega⟩
 rw [pG_i, ifY, Xm (by omega), Xm (by omega), Xm (by omega), Wb hk (by omega), st3 hl, Vb hp hk (by decide)]
 simp only [List.append_assoc]
 rw [Ywc, ifP, r0.e he k _ f rfl rfl (by omega), Option.bind_some]
 dsimp only
 rw [Xg, Option.bind_some, br_rd, r1.b hb1 k _ f (by omega), Option.bind_some]
 dsimp only
 rcases h2 with h2 | h2 | h2
 ·have e2 := Yca h2
  rw [e2]
  rw [show (bif decide ((10 : Int) = 10) then [32, 101, 108, 115, 101, 32] ++ blkX (txT (kidAt t 2)) k else bif decide ((10 : Int) = 18) then [32, 101, 108, 115, 101, 32] ++ (txT (kidAt t 2)).st k else []) = [32, 101, 108, 115, 101, 32] ++ blkX (txT (kidAt t 2)) k from rfl]
  rw [List.append_assoc, Ywc, show cut [32, 101, 108, 115, 101, 32, 105, 102, 32] ([32, 101, 108, 115, 101, 32] ++ ([123, 10] ++ (((txT (kidAt t 2)).ls (k + 1) ++ tabsL k) ++ ([125] ++ r)))) = none from rfl]
  dsimp only
  rw [Xg]
  dsimp only
  rw [br_rd, r2.b h2 k r f (by omega)]; rfl
 ·have e2 : (kidAt t 2).kind = 18 := of_decide_eq_true (Bool.and_eq_true_iff.1 h2).1
  rw [e2]
  rw [show (bif decide ((18 : Int) = 10) then [32, 101, 108, 115, 101, 32] ++ blkX (txT (kidAt t 2)) k else bif decide ((18 : Int) = 18) then [32, 101, 108, 115, 101, 32] ++ (txT (kidAt t 2)).st k else []) = [32, 101, 108, 115, 101, 32] ++ (txT (kidAt t 2)).st k from rfl]
  rw [ifY_eq e2, show ([32, 101, 108, 115, 101, 32] ++ ([105, 102, 32] ++ ifY (kidAt t 2) k)) ++ r = [32, 101, 108, 115, 101, 32, 105, 102, 32] ++ (ifY (kidAt t 2) k ++ r) by simp, Xg]
  dsimp only
  rw [r2.i h2 k r (ifY (kidAt t 2) k) f hr (ifY_eq e2 k) (by omega)]; rfl
 ·obtain ⟨e2, _, _⟩ := Qn h2
  rw [e2]
  rw [show (bif decide ((9 : Int) = 10) then [32, 101, 108, 115, 101, 32] ++ blkX (txT (kidAt t 2)) k else bif decide ((9 : Int) = 18) then [32, 101, 108, 115, 101, 32] ++ (txT (kidAt t 2)).st k else []) = [] from rfl]
  rw [List.nil_append, hr.sp, Xza h2]
  dsimp only
  rw [hr.sp]
theorem csP_tabs (p : Md → Bs → Option (Nd × Bs)) (l : List Nd) (s : Bs) : csP p l (tabsP s) = csP p l s := by rw [csP, csP, tabs_two]
theorem stop_cs (l : List Nd) (hl : ∀ y ∈ l, caseB y = true) (k : Nat) (r : Bs) : stopB (tabsP ((l.flatMap fun y => (txT y).cs k) ++ (tabsL k ++ ([125] ++ r)))) = true := by
 cases l with
 | nil => rw [List.flatMap_nil, List.nil_append, Jib]; rfl
 | cons y l =>
  rw [List.flatMap_cons, tx_cs, csX]
  cases decide ((kidAt y 0).kind = 9)
  ·rw [cond_false]
   simp only [List.append_assoc]
   rw [tabs_case]; rfl
  ·rw [cond_true]
   simp only [List.append_assoc]
   rw [tabs_deft]; rfl
theorem rd_cases {t : Nd} (ih : ∀ y, count y < count t → okNd y → Rs y) (k : Nat) (r : Bs) : ∀ (l acc : List Nd) (f : Nat), (∀ y ∈ l, caseB y = true ∧ okNd y ∧ count y < count t) → 10 * (l.map count).sum + 1 ≤ f → pG f (.c acc) ((l.flatMap fun y => (txT y).cs k) ++ (tabsL k ++ ([125] ++ r))) = some (nd 22 [] 0 (acc ++ l.map stripT), r) := by
 intro l
 induction l with
 | nil =>
  intro acc f _ hf
  obtain ⟨f, rfl⟩ : ∃ g, f = g + 1 := ⟨f - 1, by omega⟩
  rw [List.flatMap_nil, List.nil_append, pG_c, csP, Jib, Xg, List.map_nil, List.append_nil]
 | cons y l ihl =>
  intro acc f hl hf
  obtain ⟨hy, oky, hcy⟩ := hl y List.mem_cons_self
  have hl' : ∀ u ∈ l, caseB u = true ∧ okNd u ∧ count u < count t := fun u hu => hl u (List.mem_cons_of_mem _ hu)
  obtain ⟨hk, hyl, hcm, hbl⟩ := sh23 hy
  have hpy : permF y = true := by rw [caseB_eq, Bool.and_eq_true] at hy; exact hy.2
  have hcn := cn2 hyl
  have hpb : permF (kidAt y 1) = true := (Bool.and_eq_true_iff.1 hbl).2
  have ok1 := ok_at oky (i := 1) (by omega)
  have ok0 := ok_at oky (i := 0) (by omega)
  simp only [List.map_cons, List.sum_cons] at hf
  have hc := Wg y
  have hc1 := Wg (kidAt y 0)
  have hcb := Ww (kidAt y 1)
  obtain ⟨f, rfl⟩ : ∃ g, f = g + 1 := ⟨f - 1, by omega⟩
  have hz := stop_cs l (fun u hu => (hl' u hu).1) k r
  have hall := sh10 hbl
  have hln : pG f (.l []) ((txT (kidAt y 1)).ls (k + 1) ++ ((l.flatMap fun y => (txT y).cs k) ++ (tabsL k ++ ([125] ++ r)))) = some (stripT (kidAt y 1), tabsP ((l.flatMap fun y => (txT y).cs k) ++ (tabsL k ++ ([125] ++ r)))) := by
   rw [Unb, rd_lines (k + 1) _ hz (kidAt y 1).kids [] f (fun u hu => ⟨ih u (by have := Xz hu; omega) (Vc ok1 hu), List.all_eq_true.1 hall u hu⟩) (by omega)]
   rw [Wb (Yca hbl) (by omega), Vb hpb (Yca hbl) (by decide)]; rfl
  have hrec : ∀ x, pG f (.c (acc ++ [x])) (tabsP ((l.flatMap fun y => (txT y).cs k) ++ (tabsL k ++ ([125] ++ r)))) = some (nd 22 [] 0 ((acc ++ [x]) ++ l.map stripT), r) := fun x => by
   have := ihl (acc ++ [x]) f hl' (by omega)
   obtain ⟨g, rfl⟩ : ∃ g, f = g + 1 := ⟨f - 1, by omega⟩
   rw [pG_c] at this ⊢
   rw [csP_tabs]; exact this
  have hst : stripT y = nd 23 [] 0 [stripT (kidAt y 0), stripT (kidAt y 1)] := by rw [Wb hk (by omega), st2 hyl, Vb hpy hk (by decide)]
  rw [List.flatMap_cons, tx_cs, csX, pG_c, Xm (by omega), Xm (by omega), List.map_cons, hst]
  cases hb : decide ((kidAt y 0).kind = 9)
  ·have hs := (Vtb hcm).elim (fun h => absurd h (of_decide_eq_false hb)) id
   rw [cond_false]
   simp only [List.append_assoc]
   rw [csP, tabs_case, show ∀ s, cut [125] ([99, 97, 115, 101, 32] ++ s) = none from fun s => rfl]
   dsimp only
   rw [show ∀ s, cut [100, 101, 102, 97, 117, 108, 116, 58, 10] ([99, 97, 115, 101, 32] ++ s) = none from fun s => rfl]
   dsimp only
   rw [Xg, Option.bind_some, (ih (kidAt y 0) (by omega) ok0).st hs k _ f (folS_co _) (by omega), Option.bind_some]
   dsimp only
   rw [Xg, Option.bind_some, hln, Option.bind_some]
   dsimp only
   rw [hrec]; simp
  ·have hn : noneB (kidAt y 0) = true := by
    have h9 := of_decide_eq_true hb
    have hpm : permF (kidAt y 0) = true := (Bool.and_eq_true_iff.1 hcm).2
    rw [Xwa, h9, hpm]; rfl
   rw [cond_true]
   simp only [List.append_assoc]
   rw [csP, tabs_deft, show ∀ s, cut [125] ([100, 101, 102, 97, 117, 108, 116, 58, 10] ++ s) = none from fun s => rfl]
   dsimp only
   rw [Xg]
   dsimp only
   rw [hln, Option.bind_some]
   dsimp only
   rw [hrec, Xza hn]; simp
theorem rs_t {t : Nd} (ih : ∀ y, count y < count t → okNd y → Rs y) (ok : okNd t) (hx : stmtB t = true) (k : Nat) (r : Bs) (f : Nat) (hr : FolS r) (hf : 10 * count t ≤ f + 1) : pG f .t ((txT t).st k ++ r) = some (stripT t, r) := by
 have hp : permF t = true := (Bool.and_eq_true_iff.1 hx).2
 have hc := Wg t
 obtain ⟨f, rfl⟩ : ∃ g, f = g + 1 := ⟨f - 1, by omega⟩
 have hR := fun {i : Nat} (h : i < t.kids.length) => ih_k ih ok h
 rw [pG_t]
 rcases Vxb hx with h | h | h | h | h | h | h | h | h | h | h | h | h | h
 ·have hv := sh6s h hx
  have hl := (sh6 hv).2.1
  rw [Zqa, stX_6 h, varX, Xm (by omega)]
  rw [show ((((([118, 97, 114, 32] ++ t.text) ++ [32]) ++ typeX (kidAt t 0)) ++ (bif decide ((kidAt t 1).kind = 9) then [] else [32, 61, 32] ++ (txT (kidAt t 1)).ex k)) ++ r) = [118, 97, 114] ++ ([32] ++ (t.text ++ ([32] ++ (typeX (kidAt t 0) ++ ((bif decide ((kidAt t 1).kind = 9) then [] else [32, 61, 32] ++ (txT (kidAt t 1)).ex k) ++ r))))) by simp]
  have := rd_var hv (fun _ => (hR (i := 1) (by omega)).toRx) k r f hr (by omega)
  exact this
 ·have hb := sh10s h hx
  rw [show (txT t).st k = blkX (txT t) k by rw [Zqa, stX_10 h, blkX, Unb, List.flatMap_map], Ywc, stP, Xg]
  dsimp only
  exact rd_blk (fun y hy => ih y (Xz hy) (Vc ok hy)) hb k r f (by omega)
 ·obtain ⟨_, hl, he⟩ := sh11 h hx
  have hcn := cn1 hl
  have c0 := Wg (kidAt t 0)
  have hn := Qp hp (by rw [h]; decide)
  rw [Zqa, stX_11 h, Xm (by omega)]
  simp only [List.append_assoc]
  rw [Zjb (hx_name hn rfl), simP, rd_nm hn rfl rfl (by omega), Option.bind_some]
  dsimp only
  rw [Xg]
  dsimp only
  rw [(hR (i := 0) (by omega)).e he k r f hr.b.1 hr.b.2.1 (by omega), Wb h (by omega), st1 hl]; rfl
 ·obtain ⟨hl, he, he1⟩ := sh12 h hx
  have hcn := cn2 hl
  rw [Zqa, stX_12 h, Xm (by omega), Xm (by omega)]
  simp only [List.append_assoc]
  rw [Zjb (Jva _ k _ he rfl), simP, (hR (i := 0) (by omega)).e he k _ f rfl rfl (by omega), Option.bind_some]
  dsimp only
  rw [show ∀ s, cut [32, 58, 61, 32] ([32, 61, 32] ++ s) = none from fun s => rfl]
  dsimp only
  rw [Xg]
  dsimp only
  rw [(hR (i := 1) (by omega)).e he1 k r f hr.b.1 hr.b.2.1 (by omega), Wb h (by omega), st2 hl, Vb hp h (by decide)]; rfl
 ·obtain ⟨hl, he⟩ := sh13 h hx
  have hcn := cn1 hl
  rw [Zqa, stX_13 h, Xm (by omega), Zjb (Jva _ k _ he hr.b.2.2), simP, (hR (i := 0) (by omega)).e he k r f hr.b.1 hr.b.2.1 (by omega), Option.bind_some]
  dsimp only
  rw [hr.sp]
  dsimp only
  rw [hr.sp]
  dsimp only
  rw [hr.sp, Wb h (by omega), st1 hl, Vb hp h (by decide)]
 ·obtain ⟨hl, he⟩ := sh14 h hx
  have hcn := cn1 hl
  rw [Zqa, stX_14 h, Xm (by omega), show ([103, 111, 32] ++ (txT (kidAt t 0)).ex k) ++ r = [103, 111] ++ ([32] ++ ((txT (kidAt t 0)).ex k ++ r)) by simp]
  have q : spP (pG f) 14 ([32] ++ ((txT (kidAt t 0)).ex k ++ r)) = some (stripT t, r) := by
   rw [spP, Xg, Option.bind_some, (hR (i := 0) (by omega)).e he k r f hr.b.1 hr.b.2.1 (by omega), Wb h (by omega), st1 hl, Vb hp h (by decide)]; rfl
  exact q
 ·obtain ⟨hl, he⟩ := sh15 h hx
  have hcn := cn1 hl
  rw [Zqa, stX_15 h, Xm (by omega), show ([100, 101, 102, 101, 114, 32] ++ (txT (kidAt t 0)).ex k) ++ r = [100, 101, 102, 101, 114] ++ ([32] ++ ((txT (kidAt t 0)).ex k ++ r)) by simp]
  have q : spP (pG f) 15 ([32] ++ ((txT (kidAt t 0)).ex k ++ r)) = some (stripT t, r) := by
   rw [spP, Xg, Option.bind_some, (hR (i := 0) (by omega)).e he k r f hr.b.1 hr.b.2.1 (by omega), Wb h (by omega), st1 hl, Vb hp h (by decide)]; rfl
  exact q
 ·obtain ⟨hl, he, he1⟩ := sh16 h hx
  have hcn := cn2 hl
  rw [Zqa, stX_16 h, Xm (by omega), Xm (by omega)]
  simp only [List.append_assoc]
  rw [Zjb (Jva _ k _ he rfl), simP, (hR (i := 0) (by omega)).e he k _ f rfl rfl (by omega), Option.bind_some]
  dsimp only
  rw [show ∀ s, cut [32, 58, 61, 32] ([32, 60, 45, 32] ++ s) = none from fun s => rfl]
  dsimp only
  rw [show ∀ s, cut [32, 61, 32] ([32, 60, 45, 32] ++ s) = none from fun s => rfl]
  dsimp only
  rw [Xg]
  dsimp only
  rw [(hR (i := 1) (by omega)).e he1 k r f hr.b.1 hr.b.2.1 (by omega), Wb h (by omega), st2 hl, Vb hp h (by decide)]; rfl
 ·obtain ⟨hl, he⟩ := sh17 h hx
  have hcn := cn1 hl
  rw [Zqa, stX_17 h, Xm (by omega), show (([99, 108, 111, 115, 101, 40] ++ (txT (kidAt t 0)).ex k) ++ [41]) ++ r = [99, 108, 111, 115, 101] ++ ([40] ++ ((txT (kidAt t 0)).ex k ++ ([41] ++ r))) by simp]
  have q : oneP (pG f) 17 ([40] ++ ((txT (kidAt t 0)).ex k ++ ([41] ++ r))) = some (stripT t, r) := by
   rw [oneP, Xg, Option.bind_some, (hR (i := 0) (by omega)).e he k ([41] ++ r) f rfl rfl (by omega), Option.bind_some]
   dsimp only
   rw [Xg, Wb h (by omega), st1 hl, Vb hp h (by decide)]; rfl
  exact q
 ·obtain ⟨hl, he⟩ := sh21 h hx
  have hcn := cn1 hl
  rw [Zqa, stX_21 h, Xm (by omega), show (([112, 114, 105, 110, 116, 40] ++ (txT (kidAt t 0)).ex k) ++ [41]) ++ r = [112, 114, 105, 110, 116] ++ ([40] ++ ((txT (kidAt t 0)).ex k ++ ([41] ++ r))) by simp]
  have q : oneP (pG f) 21 ([40] ++ ((txT (kidAt t 0)).ex k ++ ([41] ++ r))) = some (stripT t, r) := by
   rw [oneP, Xg, Option.bind_some, (hR (i := 0) (by omega)).e he k ([41] ++ r) f rfl rfl (by omega), Option.bind_some]
   dsimp only
   rw [Xg, Wb h (by omega), st1 hl, Vb hp h (by decide)]; rfl
  exact q
 ·have hb := sh18s h hx
  rw [ifY_eq h, show ([105, 102, 32] ++ ifY t k) ++ r = [105, 102] ++ ([32] ++ (ifY t k ++ r)) by simp]
  have q : ((cut [32] ([32] ++ (ifY t k ++ r))).bind fun r => pG f .i r) = some (stripT t, r) := by
   rw [Xg, Option.bind_some]; exact rs_i ih ok hb k r f hr (by omega)
  exact q
 ·have hcs := sh22 h hx
  have hcn := Ww t
  rw [Zqa, stX_22 h, show ((([115, 101, 108, 101, 99, 116, 32, 123, 10] ++ (t.kids.map txT).flatMap fun y => y.cs k) ++ tabsL k) ++ [125]) ++ r = [115, 101, 108, 101, 99, 116] ++ ([32, 123, 10] ++ (((t.kids.map txT).flatMap fun y => y.cs k) ++ (tabsL k ++ ([125] ++ r)))) by simp, List.flatMap_map]
  have q : ((cut [32, 123, 10] ([32, 123, 10] ++ ((t.kids.flatMap fun y => (txT y).cs k) ++ (tabsL k ++ ([125] ++ r))))).bind fun r => pG f (.c []) r) = some (stripT t, r) := by
   rw [Xg, Option.bind_some, rd_cases ih k r t.kids [] f (fun y hy => ⟨List.all_eq_true.1 hcs y hy, Vc ok hy, Xz hy⟩) (by omega), Wb h (by omega), Vb hp h (by decide)]; rfl
  exact q
 ·obtain ⟨hl, he⟩ := sh20 h hx
  rw [Zqa, stX_20 h]
  cases hb : lenK t 0
  ·have hl1 : t.kids.length = 1 := by unfold lenK at hb; have := of_decide_eq_false hb; omega
   have he0 : exprB (kidAt t 0) = true := Vu he (by omega)
   have hcn := cn1 hl1
   rw [cond_false, Xm (by omega), show ([114, 101, 116, 117, 114, 110, 32] ++ (txT (kidAt t 0)).ex k) ++ r = [114, 101, 116, 117, 114, 110] ++ ([32] ++ ((txT (kidAt t 0)).ex k ++ r)) by simp]
   have q : (match cut [32] ([32] ++ ((txT (kidAt t 0)).ex k ++ r)) with
     | some r => (pG f .e r).map fun x => (nd 20 [] 0 [x.1], x.2)
     | none => some (nd 20 [] 0 [], [32] ++ ((txT (kidAt t 0)).ex k ++ r))) = some (stripT t, r) := by
    rw [Xg]
    dsimp only
    rw [(hR (i := 0) (by omega)).e he0 k r f hr.b.1 hr.b.2.1 (by omega), Wb h (by omega), st1 hl1, Vb hp h (by decide)]; rfl
   exact q
  ·have hl0 : t.kids.length = 0 := by unfold lenK at hb; have := of_decide_eq_true hb; omega
   rw [cond_true]
   obtain ⟨w1, w2⟩ := Vt (n := [114, 101, 116, 117, 114, 110]) (r := r) (by decide) hr.b.2.2
   rw [stP, show cut [123, 10] ([114, 101, 116, 117, 114, 110] ++ r) = none from rfl]
   dsimp only
   rw [w1, w2]
   have q : (match cut [32] r with
     | some r => (pG f .e r).map fun x => (nd 20 [] 0 [x.1], x.2)
     | none => some (nd 20 [] 0 [], r)) = some (stripT t, r) := by
    rw [hr.sp]
    dsimp only
    rw [Wb h (by omega), Uya hl0, Vb hp h (by decide)]
   exact q
 ·obtain ⟨hl, h0, hb1⟩ := sh19 h hx
  have hcn := cn2 hl
  have c0 := Wg (kidAt t 0)
  rw [Zqa, stX_19 h, Xm (by omega), Xm (by omega)]
  cases hb : decide ((kidAt t 0).kind = 9)
  ·have he := h0.elim (fun h => absurd (Qn h).1 (of_decide_eq_false hb)) id
   rw [cond_false, show ((([102, 111, 114, 32] ++ (txT (kidAt t 0)).ex k) ++ [32]) ++ blkX (txT (kidAt t 1)) k) ++ r = [102, 111, 114] ++ ([32] ++ ((txT (kidAt t 0)).ex k ++ ([32] ++ (blkX (txT (kidAt t 1)) k ++ r)))) by simp, Ywc]
   obtain ⟨s, hs⟩ : ∃ s, s = (txT (kidAt t 0)).ex k ++ ([32] ++ ([123, 10] ++ (((txT (kidAt t 1)).ls (k + 1) ++ tabsL k) ++ ([125] ++ r)))) := ⟨_, rfl⟩
   have hh : Hx s := by rw [hs]; exact Jva _ k _ he rfl
   have q : (match cut [32, 123, 10] ([32] ++ s) with
     | some r => (pG f .b r).map fun x => (nd 19 [] 0 [nd 9 [] 0 [], x.1], x.2)
     | none => (cut [32] ([32] ++ s)).bind fun r => (pG f .e r).bind fun x => (cut [32] x.2).bind fun r => (brP (pG f) r).map fun y => (nd 19 [] 0 [x.1, y.1], y.2)) = some (stripT t, r) := by
    rw [show cut [32, 123, 10] ([32] ++ s) = cut [123, 10] s from rfl, Jc (hh.ne (by decide))]
    dsimp only
    rw [Xg, Option.bind_some, hs, (hR (i := 0) (by omega)).e he k _ f rfl rfl (by omega), Option.bind_some]
    dsimp only
    rw [Xg, Option.bind_some, br_rd, (hR (i := 1) (by omega)).b hb1 k r f (by omega), Wb h (by omega), st2 hl, Vb hp h (by decide)]; rfl
   rw [← hs]
   exact q
  ·have hn := h0.elim id fun h => absurd (of_decide_eq_true hb) (Yjb h)
   rw [cond_true, show ([102, 111, 114, 32] ++ blkX (txT (kidAt t 1)) k) ++ r = [102, 111, 114, 32] ++ (blkX (txT (kidAt t 1)) k ++ r) by simp, Ywc, show ∀ s : Bs, [102, 111, 114, 32] ++ ([123, 10] ++ s) = [102, 111, 114] ++ ([32, 123, 10] ++ s) from fun s => rfl]
   have q : (match cut [32, 123, 10] ([32, 123, 10] ++ (((txT (kidAt t 1)).ls (k + 1) ++ tabsL k) ++ ([125] ++ r))) with
     | some r => (pG f .b r).map fun x => (nd 19 [] 0 [nd 9 [] 0 [], x.1], x.2)
     | none => (cut [32] ([32, 123, 10] ++ (((txT (kidAt t 1)).ls (k + 1) ++ tabsL k) ++ ([125] ++ r)))).bind fun r => (pG f .e r).bind fun x => (cut [32] x.2).bind fun r => (brP (pG f) r).map fun y => (nd 19 [] 0 [x.1, y.1], y.2)) = some (stripT t, r) := by
    rw [Xg]
    dsimp only
    rw [(hR (i := 1) (by omega)).b hb1 k r f (by omega), Wb h (by omega), st2 hl, Vb hp h (by decide), Xza hn]; rfl
   exact q
theorem rs_all : ∀ (n : Nat) (t : Nd), count t ≤ n → okNd t → Rs t := by
 intro n
 induction n with
 | zero => intro t h; exact absurd h (by have := Wg t; omega)
 | succ n ihn =>
  intro t hc ok
  have ih : ∀ y, count y < count t → okNd y → Rs y := fun y hy hk => ihn y (by omega) hk
  have ihk : ∀ i, i < t.kids.length → Rx (kidAt t i) := fun i h => (ih_k ih ok h).toRx
  exact { e := fun hx k r f => rx_e ihk ok hx k r f, u := fun hx h32 k r f => rx_u ihk ok hx h32 k r f, s := fun hx h1 h2 h3 k r f => rx_s ihk ok hx h1 h2 h3 k r f, b := fun hb k r f hf => rd_blk (fun y hy => ih y (Xz hy) (Vc ok hy)) hb k r f hf, st := fun hx k r f => rs_t ih ok hx k r f, i := fun hb k r s f hr e hf => by rw [if_cut (of_decide_eq_true (Bool.and_eq_true_iff.1 hb).1) e]; exact rs_i ih ok hb k r f hr hf }
end Go.Rk
namespace Go.Rk
open Go Go.RowKit
set_option linter.unusedVariables false
def fiP (s : Bs) : Option (Nd × Bs) := (cut [32] (wrF s)).bind fun r => (tyP r).map fun y => (nd 3 (wdF s) 0 [y.1], y.2)
theorem rd_fi {t : Nd} (h : fieldB t = true) {r : Bs} (hr : nb r = true) : fiP (fieldX t ++ r) = some (stripT t, r) := by
 obtain ⟨hk, _, hl, hty⟩ := sh3 h
 have hp : permF t = true := (Bool.and_eq_true_iff.1 h).2
 obtain ⟨q1, _, _⟩ := Qh (Qp hp (by rw [hk]; decide))
 rw [fieldX, show (((t.text ++ [32]) ++ typeX (kidAt t 0)) ++ r) = t.text ++ ([32] ++ (typeX (kidAt t 0) ++ r)) by simp]
 obtain ⟨w1, w2⟩ := Vt (n := t.text) (r := [32] ++ (typeX (kidAt t 0) ++ r)) q1 rfl
 rw [fiP, w1, w2, Xg, Option.bind_some, rd_ty hty hr, Wb hk (by omega), st1 hl]; rfl
theorem fi_hd {t : Nd} (h : fieldB t = true) (r : Bs) {c : UInt8} (hc : alB c = false) : hd (fieldX t ++ r) ≠ c := by
 obtain ⟨hk, _, hl, hty⟩ := sh3 h
 have hp : permF t = true := (Bool.and_eq_true_iff.1 h).2
 obtain ⟨q1, ⟨a, l, e, _⟩, _⟩ := Qh (Qp hp (by rw [hk]; decide))
 rw [fieldX, List.append_assoc, List.append_assoc]
 exact Wob (Ytc q1 (by rw [e]; simp)) hc
def fdP : Nat → List Nd → Bs → Option (List Nd × Bs)
 | 0, _, _ => none
 | f + 1, acc, s => match cut [9] s with
  | none => some (acc, s)
  | some r => (fiP r).bind fun y => (cut [10] y.2).bind fun r2 => fdP f (acc ++ [y.1]) r2
theorem rd_fields (r : Bs) (hr : hd r ≠ 9) : ∀ (l acc : List Nd) (f : Nat), l.all fieldB = true → l.length < f → fdP f acc ((l.flatMap fun t => ([9] ++ fieldX t) ++ [10]) ++ r) = some (acc ++ l.map stripT, r) := by
 intro l
 induction l with
 | nil =>
  intro acc f _ hf
  obtain ⟨f, rfl⟩ : ∃ g, f = g + 1 := ⟨f - 1, by simp at hf; omega⟩
  rw [List.flatMap_nil, List.nil_append, fdP, Jc hr]; simp
 | cons y l ih =>
  intro acc f hl hf
  simp only [List.all_cons, Bool.and_eq_true] at hl
  obtain ⟨f, rfl⟩ : ∃ g, f = g + 1 := ⟨f - 1, by simp at hf; omega⟩
  rw [show ((y :: l).flatMap fun t => ([9] ++ fieldX t) ++ [10]) ++ r = [9] ++ (fieldX y ++ ([10] ++ ((l.flatMap fun t => ([9] ++ fieldX t) ++ [10]) ++ r))) by simp, fdP, Xg]
  dsimp only
  rw [rd_fi hl.1 rfl, Option.bind_some]
  dsimp only
  rw [Xg, Option.bind_some, ih _ _ hl.2 (by simp at hf; omega)]; simp
theorem rd_fieldsB (r : Bs) (l acc : List Nd) (f : Nat) (h : l.all fieldB = true) (hf : l.length < f) : fdP f acc ((l.flatMap fun t => ([9] ++ fieldX t) ++ [10]) ++ ([125] ++ r)) = some (acc ++ l.map stripT, [125] ++ r) := rd_fields ([125] ++ r) (by have e : hd ([125] ++ r) = 125 := rfl; rw [e]; decide) l acc f h hf
def prP : Nat → List Nd → Bs → Option (List Nd × Bs)
 | 0, _, _ => none
 | f + 1, acc, s => match cut [41] s with
  | some r => some (acc, r)
  | none => (fiP s).bind fun y => match cut [44, 32] y.2 with
   | some r2 => prP f (acc ++ [y.1]) r2
   | none => (cut [41] y.2).map fun r => (acc ++ [y.1], r)
theorem rd_params (r : Bs) : ∀ (l acc : List Nd) (f : Nat), l ≠ [] → l.all fieldB = true → l.length < f → prP f acc (joinX (l.map fieldX) ++ ([41] ++ r)) = some (acc ++ l.map stripT, r) := by
 intro l
 induction l with
 | nil => intro _ _ h; exact absurd rfl h
 | cons y l ih =>
  intro acc f _ hl hf
  simp only [List.all_cons, Bool.and_eq_true] at hl
  obtain ⟨f, rfl⟩ : ∃ g, f = g + 1 := ⟨f - 1, by simp at hf; omega⟩
  cases l with
  | nil =>
   rw [show joinX ([y].map fieldX) ++ ([41] ++ r) = fieldX y ++ ([41] ++ r) by simp [joinX], prP, Jc (fi_hd hl.1 _ (by decide))]
   dsimp only
   rw [rd_fi hl.1 rfl, Option.bind_some]
   dsimp only
   rw [show cut [44, 32] ([41] ++ r) = none from rfl, Xg]; simp
  | cons z l =>
   rw [show joinX ((y :: z :: l).map fieldX) ++ ([41] ++ r) = fieldX y ++ ([44, 32] ++ (joinX ((z :: l).map fieldX) ++ ([41] ++ r))) by simp [joinX], prP, Jc (fi_hd hl.1 _ (by decide))]
   dsimp only
   rw [rd_fi hl.1 rfl, Option.bind_some]
   dsimp only
   rw [Xg]
   dsimp only
   rw [ih _ _ (by simp) hl.2 (by simp at hf ⊢; omega)]; simp
def dcP (f : Nat) (s : Bs) : Option (Nd × Bs) :=
 bif decide (wdF s = [118, 97, 114]) then varP (pG f) (wrF s)
 else bif decide (wdF s = [116, 121, 112, 101]) then (cut [32] (wrF s)).bind fun r => (cut [32, 115, 116, 114, 117, 99, 116, 32, 123, 10] (wrF r)).bind fun r1 => (fdP f [] r1).bind fun x => (cut [125] x.2).map fun r2 => (nd 2 (wdF r) 0 x.1, r2)
 else (cut [32] (wrF s)).bind fun r => (cut [40] (wrF r)).bind fun r1 => (prP f [] r1).bind fun x => (cut [32] x.2).bind fun r2 =>
  match cut [123, 10] r2 with
  | some r3 => (pG f .b r3).map fun b => (nd 4 (wdF r) 0 [nd 5 [] 0 x.1, nd 9 [] 0 [], b.1], b.2)
  | none => (tyP r2).bind fun y => (cut [32] y.2).bind fun r3 => (brP (pG f) r3).map fun b => (nd 4 (wdF r) 0 [nd 5 [] 0 x.1, y.1, b.1], b.2)
theorem Yxc {t : Nd} (h : declB t = true) : t.kind = 2 ∨ t.kind = 6 ∨ t.kind = 4 := by
 unfold declB memK at h
 simp only [Bool.and_eq_true, decide_eq_true_eq, List.mem_cons, List.not_mem_nil, or_false] at h
 exact h.1.1
theorem kids_lt {t : Nd} {n : Nat} (h : 10 * count t ≤ n) : t.kids.length < n := by
 have := Qm t; have := Wg t; omega
theorem ty_hd {t : Nd} (h : isTypeB t = true) (r : Bs) : hd (typeX t ++ r) ≠ 123 := by
 have hl := typ_len h
 have hp : permF t = true := by rw [Xxa, Bool.and_eq_true] at h; exact h.2
 unfold isTypeB at h
 cases h1 : decide (t.kind = 8)
 ·rw [h1] at h
  cases h2 : decide (t.kind = 7)
  ·rw [h2] at h; cases h
  ·rw [h2] at h
   have h : (typeNameB t.text && leafB t) = true := h
   have h3 := (Ypa _ _).1 (Bool.and_eq_true_iff.1 h).1
   simp only [Ul, List.mem_cons, List.not_mem_nil, or_false] at h3
   rw [typeX, h1, cond_false]
   have go : ∀ (c : UInt8) (s : Bs), c ≠ 123 → hd ((c :: s) ++ r) ≠ 123 := fun c s hc => hc
   rcases h3 with e | e | e | e | e | e | e | e | e | e <;> rw [e] <;> exact go _ _ (by decide)
 ·rw [typeX, h1, cond_true]
  have go : ∀ (c : UInt8) (s : Bs), c ≠ 123 → hd ((c :: s) ++ r) ≠ 123 := fun c s hc => hc
  exact go 42 _ (by decide)
theorem rd_decl {t : Nd} (ok : okNd t) (hd0 : declB t = true) (r : Bs) (f : Nat) (hf : 10 * count t ≤ f) : dcP f (declX t ++ ([10] ++ r)) = some (stripT t, [10] ++ r) := by
 have hR : ∀ {i : Nat}, i < t.kids.length → Rs (kidAt t i) := fun {i} h => rs_all _ _ (Nat.le_refl _) (ok_at ok h)
 have hp : permF t = true := (Bool.and_eq_true_iff.1 (Bool.and_eq_true_iff.1 hd0).1).2
 have hrd := (Zya t).trans hd0
 unfold Jo at hrd
 rcases Yxc hd0 with h | h | h
 ·rw [h] at hrd
  have hrd : (nameB t.text && t.kids.all fieldB) = true := hrd
  rw [Bool.and_eq_true] at hrd
  obtain ⟨q1, _, _⟩ := Qh hrd.1
  have e : declX t ++ ([10] ++ r) = [116, 121, 112, 101] ++ ([32] ++ (t.text ++ ([32, 115, 116, 114, 117, 99, 116, 32, 123, 10] ++ ((t.kids.flatMap fun t => ([9] ++ fieldX t) ++ [10]) ++ ([125] ++ ([10] ++ r)))))) := by
   rw [declX, h]
   show (((([116, 121, 112, 101, 32] ++ t.text) ++ [32, 115, 116, 114, 117, 99, 116, 32, 123, 10]) ++ t.kids.flatMap fun f => (((([9] ++ f.text) ++ [32]) ++ typeX (kidAt f 0)) ++ [10])) ++ [125]) ++ ([10] ++ r) = _
   simp [fieldX]
  obtain ⟨w1, w2⟩ := Vt (n := [116, 121, 112, 101]) (r := [32] ++ (t.text ++ ([32, 115, 116, 114, 117, 99, 116, 32, 123, 10] ++ ((t.kids.flatMap fun t => ([9] ++ fieldX t) ++ [10]) ++ ([125] ++ ([10] ++ r)))))) (by decide) rfl
  obtain ⟨v1, v2⟩ := Vt (n := t.text) (r := [32, 115, 116, 114, 117, 99, 116, 32, 123, 10] ++ ((t.kids.flatMap fun t => ([9] ++ fieldX t) ++ [10]) ++ ([125] ++ ([10] ++ r)))) q1 rfl
  rw [e, dcP, w1, w2, show decide (([116, 121, 112, 101] : Bs) = [118, 97, 114]) = false from rfl, cond_false, show decide (([116, 121, 112, 101] : Bs) = [116, 121, 112, 101]) = true from rfl, cond_true, Xg, Option.bind_some, v1, v2, Xg, Option.bind_some, rd_fieldsB _ _ _ _ hrd.2 (kids_lt hf), Option.bind_some]
  dsimp only
  rw [Xg, Wb h (by omega)]; rfl
 ·rw [h] at hrd
  have hrd : (varB t && noneB (kidAt t 1)) = true := hrd
  rw [Bool.and_eq_true] at hrd
  have hl := (sh6 hrd.1).2.1
  have e : declX t ++ ([10] ++ r) = [118, 97, 114] ++ ([32] ++ (t.text ++ ([32] ++ (typeX (kidAt t 0) ++ ((bif decide ((kidAt t 1).kind = 9) then [] else [32, 61, 32] ++ (txT (kidAt t 1)).ex 0) ++ ([10] ++ r)))))) := by
   rw [declX, h]
   show (txT t).st 0 ++ ([10] ++ r) = _
   rw [Zqa, stX_6 h, varX, Xm (by omega)]; simp
  have q : dcP f (declX t ++ ([10] ++ r)) = varP (pG f) ([32] ++ (t.text ++ ([32] ++ (typeX (kidAt t 0) ++ ((bif decide ((kidAt t 1).kind = 9) then [] else [32, 61, 32] ++ (txT (kidAt t 1)).ex 0) ++ ([10] ++ r)))))) := by
   rw [e]; rfl
  rw [q, rd_var hrd.1 (fun _ => (hR (i := 1) (by omega)).toRx) 0 _ f (folS_nl r) (by omega)]
 ·rw [h] at hrd
  have hrd : (bif !nameB t.text || !lenK t 3 then false else (((decide ((kidAt t 0).kind = 5) && plainB (kidAt t 0)) && (kidAt t 0).kids.all fieldB) && (noneB (kidAt t 1) || isTypeB (kidAt t 1))) && blockB (kidAt t 2)) = true := hrd
  rw [Whb] at hrd
  simp only [Bool.and_eq_true, Bool.or_eq_true, decide_eq_true_eq] at hrd
  obtain ⟨⟨hn, hl3⟩, ⟨⟨⟨h5, hp5⟩, hfs⟩, hres⟩, hb⟩ := hrd
  have hl : t.kids.length = 3 := by unfold lenK at hl3; have := of_decide_eq_true hl3; omega
  have hcn := cn3 hl
  obtain ⟨q1, _, _⟩ := Qh hn
  have c0 := Wg (kidAt t 0)
  have c1 := Wg (kidAt t 1)
  have h50 : stripT (kidAt t 0) = nd 5 [] 0 ((kidAt t 0).kids.map stripT) := by rw [Wb h5 (by omega), of_decide_eq_true hp5]
  have e : declX t ++ ([10] ++ r) = [102, 117, 110, 99] ++ ([32] ++ (t.text ++ ([40] ++ (joinX ((kidAt t 0).kids.map fieldX) ++ ([41] ++ ([32] ++ ((bif decide ((kidAt t 1).kind = 9) then [] else typeX (kidAt t 1) ++ [32]) ++ ([123, 10] ++ (((txT (kidAt t 2)).ls (0 + 1) ++ tabsL 0) ++ ([125] ++ ([10] ++ r))))))))))) := by
   rw [declX, h]
   show (((((([102, 117, 110, 99, 32] ++ t.text) ++ [40]) ++ joinX ((kidAt t 0).kids.map fieldX)) ++ [41, 32]) ++ (bif decide ((kidAt t 1).kind = 9) then [] else typeX (kidAt t 1) ++ [32])) ++ blkX (txT (kidAt t 2)) 0) ++ ([10] ++ r) = _
   simp [blkX]
  obtain ⟨Z, hZ⟩ : ∃ Z, Z = [123, 10] ++ (((txT (kidAt t 2)).ls (0 + 1) ++ tabsL 0) ++ ([125] ++ ([10] ++ r))) := ⟨_, rfl⟩
  rw [← hZ] at e
  obtain ⟨w1, w2⟩ := Vt (n := [102, 117, 110, 99]) (r := [32] ++ (t.text ++ ([40] ++ (joinX ((kidAt t 0).kids.map fieldX) ++ ([41] ++ ([32] ++ ((bif decide ((kidAt t 1).kind = 9) then [] else typeX (kidAt t 1) ++ [32]) ++ Z))))))) (by decide) rfl
  obtain ⟨v1, v2⟩ := Vt (n := t.text) (r := [40] ++ (joinX ((kidAt t 0).kids.map fieldX) ++ ([41] ++ ([32] ++ ((bif decide ((kidAt t 1).kind = 9) then [] else typeX (kidAt t 1) ++ [32]) ++ Z))))) q1 rfl
  have ea : ∀ s, prP f [] (joinX ((kidAt t 0).kids.map fieldX) ++ ([41] ++ s)) = some ((kidAt t 0).kids.map stripT, s) := fun s => by
   by_cases hz : (kidAt t 0).kids = []
   ·rw [hz]
    obtain ⟨f, rfl⟩ : ∃ q, f = q + 1 := ⟨f - 1, by omega⟩
    show prP (f + 1) [] ([41] ++ s) = _
    rw [prP, Xg]; rfl
   ·exact rd_params s (kidAt t 0).kids [] f hz hfs (by have := Qm (kidAt t 0); omega)
  have hbl : pG f .b (((txT (kidAt t 2)).ls (0 + 1) ++ tabsL 0) ++ ([125] ++ ([10] ++ r))) = some (stripT (kidAt t 2), [10] ++ r) := (hR (i := 2) (by omega)).b hb 0 _ f (by omega)
  rw [e, dcP, w1, w2, show decide (([102, 117, 110, 99] : Bs) = [118, 97, 114]) = false from rfl, cond_false, show decide (([102, 117, 110, 99] : Bs) = [116, 121, 112, 101]) = false from rfl, cond_false, Xg, Option.bind_some, v1, v2, Xg, Option.bind_some, ea, Option.bind_some]
  dsimp only
  rw [Xg, Option.bind_some, Wb h (by omega), st3 hl, h50]
  cases hk9 : decide ((kidAt t 1).kind = 9)
  ·have hty := hres.elim (fun h => absurd (Qn h).1 (of_decide_eq_false hk9)) id
   rw [cond_false, List.append_assoc, Jc (ty_hd hty _)]
   dsimp only
   rw [rd_ty hty rfl, Option.bind_some]
   dsimp only
   rw [Xg, Option.bind_some, hZ, br_rd, hbl]; rfl
  ·have hno := hres.elim id fun h => absurd (of_decide_eq_true hk9) (typ_not_none h)
   rw [cond_true, List.nil_append, hZ, Xg]
   dsimp only
   rw [hbl, Xza hno]; rfl
def flP (f : Nat) : Nat → List Nd → Bs → Option (List Nd)
 | 0, _, _ => none
 | n + 1, acc, s => match s with
  | [] => some acc
  | a :: l => (dcP f (a :: l)).bind fun x => (cut [10] x.2).bind fun r => flP f n (acc ++ [x.1]) r
theorem dc_ne {t : Nd} (h : declB t = true) : ∃ a l, declX t = a :: l := by
 rcases Yxc h with h | h | h
 ·rw [declX, h]; exact ⟨116, _, rfl⟩
 ·rw [declX, h]
  show ∃ a l, (txT t).st 0 = a :: l
  rw [Zqa, stX_6 h, varX]; exact ⟨118, _, rfl⟩
 ·rw [declX, h]; exact ⟨102, _, rfl⟩
theorem rd_file (f : Nat) : ∀ (l acc : List Nd) (n : Nat), (∀ t ∈ l, declB t = true ∧ okNd t ∧ 10 * count t ≤ f) → l.length < n → flP f n acc (l.flatMap fun d => declX d ++ [10]) = some (acc ++ l.map stripT) := by
 intro l
 induction l with
 | nil =>
  intro acc n _ hn
  obtain ⟨n, rfl⟩ : ∃ g, n = g + 1 := ⟨n - 1, by simp at hn; omega⟩
  rw [List.flatMap_nil, flP]; simp
 | cons y l ih =>
  intro acc n hl hn
  obtain ⟨h1, h2, h3⟩ := hl y List.mem_cons_self
  obtain ⟨n, rfl⟩ : ∃ g, n = g + 1 := ⟨n - 1, by simp at hn; omega⟩
  obtain ⟨a, u, e⟩ := dc_ne h1
  have hd := rd_decl h2 h1 (l.flatMap fun d => declX d ++ [10]) f h3
  rw [List.flatMap_cons, List.append_assoc]
  rw [e] at hd ⊢
  rw [List.cons_append, flP]
  rw [List.cons_append] at hd
  rw [hd, Option.bind_some]
  dsimp only
  rw [Xg, Option.bind_some, ih _ _ (fun t ht => hl t (List.mem_cons_of_mem _ ht)) (by simp at hn; omega)]; simp
theorem valid_kp {t : Nd} (h : validB t = true) : t.kind = 1 ∧ permF t = true := by
 unfold validB permB at h
 simp only [Bool.and_eq_true, decide_eq_true_eq] at h
 exact ⟨h.1, h.2.1⟩
theorem Upb {t : Nd} (h : validB t = true) : stripT t = nd 1 [] 0 (t.kids.map stripT) := by
 obtain ⟨h1, h2⟩ := valid_kp h
 rw [Wb h1 (by omega), Vb h2 h1 (by decide)]
theorem print_inj {a b : Nd} (ha : validB a = true) (hb : validB b = true) (oa : okNd a) (ob : okNd b) (h : printX a = printX b) : stripT a = stripT b := by
 have go : ∀ {t : Nd} (n : Nat), validB t = true → okNd t → count t ≤ n → flP (10 * n) (n + 1) [] (printX t) = some (t.kids.map stripT) := fun {t} n hv ok hc => by
  rw [printX, hv, cond_true]
  have := rd_file (10 * n) t.kids [] (n + 1) (fun y hy => ⟨List.all_eq_true.1 (Yvb hv) y hy, Vc ok hy, by have := Xz hy; omega⟩) (by have := Qm t; omega)
  rw [this]; rfl
 have e1 := go (count a + count b) ha oa (by omega)
 have e2 := go (count a + count b) hb ob (by omega)
 rw [h, e2] at e1
 injection e1 with e1
 rw [Upb ha, Upb hb, e1]
/-! the same trees have the same text -/
theorem Yqa (t : Nd) (i : Nat) : kidAt (stripT t) i = stripT (kidAt t i) := by
 by_cases h : i < t.kids.length
 ·rw [Xu h, Xu (by rw [Vrb]; exact h)]
  simp only [Zza]; rw [List.getElem_map]
 ·rw [Xma h, Xma (by rw [Vrb]; exact h)]; rfl
theorem Je (t : Nd) : (stripT t).kind = t.kind := by rw [Um]; rfl
theorem Waa (t : Nd) : (stripT t).text = t.text := by rw [Um]; rfl
theorem strip_num {t : Nd} (h : t.kind = 24 ∨ t.kind = 25) : (stripT t).num = t.num := by
 rw [Um]
 show numS t = t.num
 rw [numS, Vj]
 rcases h with h | h <;> rw [h] <;> rfl
theorem Yyb (t : Nd) : typeX (stripT t) = typeX t := by rw [typeX, typeX, Je, Waa]
theorem txF_strip (t : Nd) (l : List Tx) : txF (stripT t) l = txF t l := by
 have e1 : exX (stripT t) (fun i => l.getD i tx0) l = exX t (fun i => l.getD i tx0) l := by
  funext k
  by_cases h : t.kind = 24
  ·rw [Yrc h, Yrc (by rw [Je]; exact h), strip_num (.inl h)]
  by_cases h1 : t.kind = 25
  ·rw [Vwb h1, Vwb (by rw [Je]; exact h1), strip_num (.inr h1)]
  unfold exX
  rw [Je, decide_eq_false h, decide_eq_false h1]
  simp only [cond_false, Waa, oprX, basX, Yqa, Je]
 have e2 : stX (stripT t) (fun i => l.getD i tx0) l = stX t (fun i => l.getD i tx0) l := by
  funext k
  unfold stX
  simp only [Je, Waa, varX, ifX, Yqa, Yyb, lenK, Vrb]
 have e3 : csX (stripT t) (fun i => l.getD i tx0) = csX t (fun i => l.getD i tx0) := by
  funext k
  unfold csX
  simp only [Yqa, Je]
 unfold txF
 rw [e1, e2, e3]
theorem txT_strip : ∀ t, txT (stripT t) = txT t := by
 refine Nd.ind fun t ih => ?_
 rw [Wm, Wm t, Zza, List.map_map, txF_strip]
 congr 1
 exact List.map_congr_left fun y hy => ih y hy
theorem field_strip (t : Nd) : fieldX (stripT t) = fieldX t := by rw [fieldX, fieldX, Waa, Yqa, Yyb]
theorem decl_strip (t : Nd) : declX (stripT t) = declX t := by
 unfold declX
 simp only [Je, Waa, txT_strip, Yqa, Yyb, Zza, List.flatMap_map, List.map_map, Function.comp_def, field_strip]
theorem print_strip {a b : Nd} (ha : validB a = true) (hb : validB b = true) (h : stripT a = stripT b) : printX a = printX b := by
 have go : ∀ {t : Nd}, validB t = true → printX t = (stripT t).kids.flatMap fun d => declX d ++ [10] := fun {t} hv => by
  rw [printX, hv, cond_true, Zza, List.flatMap_map]
  simp only [decl_strip]
 rw [go ha, go hb, h]
theorem print_eq {a b : Nd} (ha : validB a = true) (hb : validB b = true) (oa : okNd a) (ob : okNd b) : decide (printX a = printX b) = eqB a b := by
 rw [Bool.eq_iff_iff, decide_eq_true_eq, eqB_iff]
 exact ⟨print_inj ha hb oa ob, print_strip ha hb⟩
end Go.Rk
namespace Go.Rk
open Go Go.RowKit
set_option linter.unusedVariables false
def Sf (u : Bs) : Prop := ∀ (pre : Bs) (ts cs : List Tok) (f : Nat), u.length ≤ f → (goF (pre ++ u) f pre.length ts cs).2.2.2 = 0
theorem sf_nil : Sf [] := fun pre ts cs f _ => by
 cases f with
 | zero => rfl
 | succ f => rw [goF, List.append_nil, decide_eq_false (Nat.lt_irrefl _)]; rfl
theorem Zkb (pre : Bs) (a : UInt8) (v : Bs) : cAt (pre ++ (a :: v)) pre.length = (a.toNat : Int) := by
 simp [cAt, List.getD_eq_getElem?_getD]
theorem Yyc (pre v : Bs) : (pre ++ v).drop pre.length = v := List.drop_left
theorem Jjb {a : UInt8} {v w : Bs} (h : ∀ pre ts cs, (nextF (pre ++ (a :: (v ++ w))) pre.length ts cs).2.2.2 = 0 ∧ (nextF (pre ++ (a :: (v ++ w))) pre.length ts cs).1 = pre.length + (v.length + 1)) (hw : Sf w) : Sf (a :: (v ++ w)) := fun pre ts cs f hf => by
 simp only [List.length_cons, List.length_append] at hf
 obtain ⟨f, rfl⟩ : ∃ g, f = g + 1 := ⟨f - 1, by omega⟩
 obtain ⟨h1, h2⟩ := h pre ts cs
 rw [goF, decide_eq_true (by simp : pre.length < (pre ++ (a :: (v ++ w))).length), cond_true, h1, h2]
 have := hw (pre ++ (a :: v)) (nextF (pre ++ (a :: (v ++ w))) pre.length ts cs).2.1 (nextF (pre ++ (a :: (v ++ w))) pre.length ts cs).2.2.1 f (by omega)
 rw [show (pre ++ (a :: v)) ++ w = pre ++ (a :: (v ++ w)) by simp, show (pre ++ (a :: v)).length = pre.length + (v.length + 1) by simp] at this
 exact this
theorem Vv {a : UInt8} {u : Bs} (ha : a = 10 ∨ a = 32 ∨ a = 9) (hu : Sf u) : Sf (a :: u) := by
 refine Jjb (v := []) (fun pre ts cs => ?_) hu
 rw [List.nil_append]
 unfold nextF
 rw [Zkb]
 rcases ha with rfl | rfl | rfl <;> exact ⟨rfl, rfl⟩
def opC (a : UInt8) : Bool := !((decide ((a.toNat : Int) = 10) || ((decide ((a.toNat : Int) = 32) || decide ((a.toNat : Int) = 9)) || decide ((a.toNat : Int) = 13))) || (letterB a.toNat || digitB a.toNat))
theorem sf_op {a : UInt8} {v u : Bs} (ha : opC a = true) (h1 : Zja (a :: (v ++ u)) = v.length + 1) (h2 : preB [47, 47] (a :: (v ++ u)) = false) (hu : Sf u) : Sf (a :: (v ++ u)) := by
 unfold opC at ha
 simp only [Bool.not_eq_true', Bool.or_eq_false_iff] at ha
 refine Jjb (fun pre ts cs => ?_) hu
 unfold nextF
 rw [Zkb, Yyc, ha.1.1, ha.1.2.1.1, ha.1.2.1.2, ha.1.2.2, h2, ha.2.1, ha.2.2, h1, show Nat.beq (v.length + 1) 0 = false from rfl]
 exact ⟨rfl, rfl⟩
theorem Vyb (x a : UInt8) (u : Bs) : preB [x] (a :: u) = decide (a = x) := by
 unfold preB
 rw [decide_eq_true (by simp : [x].length ≤ (a :: u).length), Bool.true_and, show (a :: u).take [x].length = [a] from rfl, decide_eq_decide]
 simp
theorem Vka (x y a : UInt8) (u : Bs) : preB [x, y] (a :: u) = (decide (a = x) && preB [y] u) := by
 cases u with
 | nil =>
  have e1 : preB [x, y] [a] = false := by unfold preB; rw [decide_eq_false (by simp)]; rfl
  have e2 : preB [y] [] = false := by unfold preB; rw [decide_eq_false (by simp)]; rfl
  rw [e1, e2, Bool.and_false]
 | cons b u =>
  rw [Vyb]
  unfold preB
  rw [decide_eq_true (by simp : [x, y].length ≤ (a :: b :: u).length), Bool.true_and, show (a :: b :: u).take [x, y].length = [a, b] from rfl, ← Bool.decide_and, decide_eq_decide]
  simp
theorem Wpb (l : Bs) : Zja l = (match opsL.find? (fun o => preB o l) with | some o => o.length | none => 0) := rfl
def one1 : List UInt8 := [40, 41, 91, 93, 123, 125, 44, 46, 43, 45, 42, 37]
theorem opLen_1 {a : UInt8} (h : a ∈ one1) (u : Bs) : Zja (a :: u) = 1 := by
 rw [Wpb]
 simp only [one1, List.mem_cons, List.not_mem_nil, or_false] at h
 rcases h with h | h | h | h | h | h | h | h | h | h | h | h <;> subst h <;> simp only [opsL, List.find?, Vyb, Vka] <;> rfl
theorem Jz {a : UInt8} (h : a ∈ one1) {u : Bs} (hu : Sf u) : Sf (a :: u) := by
 refine sf_op (v := []) ?_ (opLen_1 h _) ?_ hu
 ·simp only [one1, List.mem_cons, List.not_mem_nil, or_false] at h
  rcases h with h | h | h | h | h | h | h | h | h | h | h | h <;> subst h <;> rfl
 ·rw [List.nil_append, Vka]
  simp only [one1, List.mem_cons, List.not_mem_nil, or_false] at h
  rcases h with h | h | h | h | h | h | h | h | h | h | h | h <;> subst h <;> rfl
theorem sf_2 {a b : UInt8} (h : [a, b] ∈ opsL.take 8) {u : Bs} (hu : Sf u) : Sf (a :: b :: u) := by
 have h : [a, b] = [58, 61] ∨ [a, b] = [61, 61] ∨ [a, b] = [33, 61] ∨ [a, b] = [60, 61] ∨ [a, b] = [62, 61] ∨ [a, b] = [38, 38] ∨ [a, b] = [124, 124] ∨ [a, b] = [60, 45] := by
  simpa [opsL] using h
 have e : Zja (a :: b :: u) = 2 := by
  rw [Wpb]
  rcases h with h | h | h | h | h | h | h | h <;> (injection h with h1 h2; injection h2 with h2; subst h1; subst h2) <;> simp only [opsL, List.find?, Vyb, Vka] <;> rfl
 refine sf_op (v := [b]) ?_ e ?_ hu
 ·rcases h with h | h | h | h | h | h | h | h <;> (injection h with h1 h2; subst h1) <;> rfl
 ·show preB [47, 47] (a :: b :: u) = false
  rw [Vka]
  rcases h with h | h | h | h | h | h | h | h <;> (injection h with h1 h2; subst h1) <;> rfl
theorem sf_3 {a b : UInt8} (h : a = 58 ∨ a = 61 ∨ a = 33 ∨ a = 60 ∨ a = 62 ∨ a = 47) (hb : b ≠ 61 ∧ b ≠ 45 ∧ b ≠ 47) {u : Bs} (hu : Sf (b :: u)) : Sf (a :: b :: u) := by
 obtain ⟨b1, b2, b3⟩ := hb
 have e : Zja (a :: b :: u) = 1 := by
  rw [Wpb]
  rcases h with h | h | h | h | h | h <;> subst h <;> simp only [opsL, List.find?, Vyb, Vka, decide_eq_false b1, decide_eq_false b2, Bool.and_false] <;> rfl
 refine sf_op (v := []) ?_ e ?_ hu
 ·rcases h with h | h | h | h | h | h <;> subst h <;> rfl
 ·rw [List.nil_append, Vka, Vyb, decide_eq_false b3, Bool.and_false]
theorem runN_al {q : Int → Bool} : ∀ {n r : Bs}, (∀ c ∈ n, q c.toNat = true) → (r = [] ∨ ∃ c u, r = c :: u ∧ q c.toNat = false) → runN q (n ++ r) = n.length
 | [], r, _, h => by
  rcases h with rfl | ⟨c, u, rfl, h⟩
  ·rfl
  ·rw [List.nil_append, runN, if_neg (by rw [h]; decide)]; rfl
 | a :: n, r, hn, h => by
  rw [List.cons_append, runN, if_pos (hn a List.mem_cons_self), runN_al (fun c hc => hn c (List.mem_cons_of_mem _ hc)) h]; rfl
theorem nb_cases {q : Int → Bool} (hq : ∀ c : UInt8, alB c = false → q c.toNat = false) {r : Bs} (h : nb r = true) : r = [] ∨ ∃ c u, r = c :: u ∧ q c.toNat = false := by
 cases r with
 | nil => exact .inl rfl
 | cons c u => exact .inr ⟨c, u, rfl, hq c (by simpa [nb, hd] using h)⟩
theorem let_ws {a : UInt8} (h : alB a = true) : decide ((a.toNat : Int) = 10) = false ∧ decide ((a.toNat : Int) = 32) = false ∧ decide ((a.toNat : Int) = 9) = false ∧ decide ((a.toNat : Int) = 13) = false ∧ decide (a = 47) = false := by
 refine ⟨?_, ?_, ?_, ?_, ?_⟩
 all_goals
  rw [decide_eq_false_iff_not]
  intro e
  unfold alB letterB digitB at h
  simp only [Bool.or_eq_true, Bool.and_eq_true, decide_eq_true_eq] at h
  first
   | omega
   | (subst e; revert h; decide)
theorem sf_word {n u : Bs} (hn : n.all alB = true) (h0 : ∃ a l, n = a :: l ∧ letterB a.toNat = true) (hl : n.length ≤ 32) (hu : nb u = true) (hs : Sf u) : Sf (n ++ u) := by
 obtain ⟨a, l, rfl, ha⟩ := h0
 have haa : alB a = true := (Bool.and_eq_true_iff.1 (List.all_cons ▸ hn)).1
 obtain ⟨e1, e2, e3, e4, e5⟩ := let_ws haa
 have hr : runN isAlnum (a :: (l ++ u)) = l.length + 1 := runN_al (n := a :: l) (fun c hc => List.all_eq_true.1 hn c hc) (nb_cases (fun c hc => hc) hu)
 refine Jjb (fun pre ts cs => ?_) hs
 unfold nextF
 rw [Zkb, Yyc, e1, e2, e3, e4, Vka, e5, ha, hr]
 rw [decide_eq_false (show ¬ (32 : Int) < ((l.length + 1 : Nat) : Int) by simp at hl; omega)]
 exact ⟨rfl, rfl⟩
theorem name_len {n : Bs} (h : nameB n = true) : n.length ≤ 32 := by
 unfold nameB at h
 simp only [Bool.and_eq_true, Bool.not_eq_true', Bool.or_eq_false_iff, decide_eq_false_iff_not] at h
 have := h.1.1.1.2
 omega
theorem Xia {n u : Bs} (h : nameB n = true) (hu : nb u = true) (hs : Sf u) : Sf (n ++ u) := by
 obtain ⟨h1, h2, _⟩ := Qh h
 exact sf_word h1 h2 (name_len h) hu hs
theorem digF_first : ∀ (f n : Nat), n < 10 ^ f → ∃ a l, digF (f + 1) n = a :: l ∧ (l ≠ [] → (a.toNat : Int) ≠ 48) := by
 intro f
 induction f with
 | zero =>
  intro n h
  have : n = 0 := by simpa using h
  subst this
  exact ⟨_, _, rfl, fun h => absurd rfl h⟩
 | succ f ih =>
  intro n h
  rw [digF]
  cases h1 : Nat.blt n 10
  ·have h10 : ¬ n < 10 := fun e => by rw [Nat.blt_eq.mpr e] at h1; cases h1
   rw [cond_false]
   by_cases h2 : n / 10 < 10
   ·have hd1 : ∀ m : Nat, 1 ≤ m → m < 10 → (((UInt8.ofNat (48 + m)).toNat : Nat) : Int) ≠ 48 := by
     intro m m1 m2
     rw [show (UInt8.ofNat (48 + m)).toNat = 48 + m by rw [UInt8.toNat_ofNat']; omega]; omega
    rw [digF, Nat.blt_eq.mpr h2, cond_true]
    exact ⟨_, _, rfl, fun _ => hd1 _ (by omega) h2⟩
   ·obtain ⟨a, l, e, he⟩ := ih (n / 10) (by rw [Nat.pow_succ] at h; omega)
    have hl : l ≠ [] := by
     intro hl
     subst hl
     rw [digF] at e
     have hb : Nat.blt (n / 10) 10 = false := by rw [← Bool.not_eq_true]; intro q; exact h2 (Nat.blt_eq.mp q)
     rw [hb, cond_false] at e
     have hlen := congrArg List.length e
     simp only [List.length_append, List.length_cons, List.length_nil] at hlen
     cases f with
     | zero =>
      have : n / 10 < 1 := by simpa using (show n / 10 < 10 ^ 0 by rw [Nat.pow_succ] at h; omega)
      omega
     | succ f =>
      have := (Xha (f + 1) (n / 10 / 10)).2 (by omega)
      exact this (List.length_eq_zero_iff.1 (by omega))
    rw [e]
    exact ⟨a, l ++ [UInt8.ofNat (48 + n % 10)], rfl, fun _ => he hl⟩
  ·rw [cond_true]; exact ⟨_, _, rfl, fun h => absurd rfl h⟩
theorem sf_dig {k : Nat} (hk : k ≤ 9223372036854775807) {u : Bs} (hu : nb u = true) (hs : Sf u) : Sf (digL k ++ u) := by
 obtain ⟨a, l, e, he⟩ := digF_first 19 k (Nat.lt_of_le_of_lt hk (by decide))
 have e : digL k = a :: l := e
 have hall := (Xha 20 k).1
 have hv := valN_digL hk
 rw [e] at hv ⊢
 replace hall : (a :: l).all dgB = true := e ▸ hall
 have hda : digitB a.toNat = true := (Bool.and_eq_true_iff.1 (List.all_cons ▸ hall)).1
 obtain ⟨e1, e2, e3, e4, e5⟩ := let_ws (dg_al hda)
 have hla : letterB a.toNat = false := by
  rw [← Bool.not_eq_true]; intro q
  unfold letterB at q; unfold digitB at hda
  simp only [Bool.or_eq_true, Bool.and_eq_true, decide_eq_true_eq] at q hda
  omega
 have hr : runN digitB (a :: (l ++ u)) = l.length + 1 := runN_al (n := a :: l) (fun c hc => List.all_eq_true.1 hall c hc) (nb_cases (fun c hc => by
  unfold alB at hc; rw [Bool.or_eq_false_iff] at hc; exact hc.2) hu)
 have ht : (a :: (l ++ u)).take (l.length + 1) = a :: l := by simp
 refine Jjb (fun pre ts cs => ?_) hs
 have hbad : badD (pre ++ (a :: (l ++ u))) pre.length (l.length + 1) = false := by
  unfold badD
  rw [Zkb, Bool.or_eq_false_iff]
  constructor
  ·rw [Bool.and_eq_false_iff]
   by_cases hl : l = []
   ·right; subst hl; rfl
   ·left; exact decide_eq_false (he hl)
  ·cases u with
   | nil => rw [decide_eq_false (by simp)]; rfl
   | cons c u =>
    have hc : letterB c.toNat = false := by
     have : alB c = false := by simpa [nb, hd] using hu
     unfold alB at this; rw [Bool.or_eq_false_iff] at this; exact this.1
    have : cAt (pre ++ (a :: (l ++ (c :: u)))) (pre.length + (l.length + 1)) = (c.toNat : Int) := by
     have := Zkb (pre ++ (a :: l)) c u
     rw [show (pre ++ (a :: l)) ++ (c :: u) = pre ++ (a :: (l ++ (c :: u))) by simp, show (pre ++ (a :: l)).length = pre.length + (l.length + 1) by simp] at this
     exact this
    rw [this, hc, Bool.and_false]
 unfold nextF
 rw [Zkb, Yyc, e1, e2, e3, e4, Vka, e5, hla, hda, hr, ht, hv, hbad]
 rw [decide_eq_true (show k < 9223372036854775808 by omega)]
 exact ⟨rfl, rfl⟩
theorem Zlb (k : Nat) {u : Bs} (hu : Sf u) : Sf (tabsL k ++ u) := by
 induction k with
 | zero => exact hu
 | succ k ih => rw [show tabsL (k + 1) = 9 :: tabsL k from List.replicate_succ]; exact Vv (.inr (.inr rfl)) ih
theorem sf_nl {u : Bs} (hu : Sf u) : Sf ([10] ++ u) := Vv (.inl rfl) hu
theorem Jn {n u : Bs} (h : (n.all alB && (letterB (cAt n 0) && decide (n.length ≤ 32))) = true) (hu : nb u = true) (hs : Sf u) : Sf (n ++ u) := by
 simp only [Bool.and_eq_true, decide_eq_true_eq] at h
 cases n with
 | nil => exact hs
 | cons a l => exact sf_word h.1 ⟨a, l, rfl, h.2.1⟩ h.2.2 hu hs
theorem sf_bop {o u : Bs} (h : anyS binOps o = true) (hu : Sf ([32] ++ u)) : Sf (o ++ ([32] ++ u)) := by
 have h := (Ypa _ _).1 h
 have hb : (32 : UInt8) ≠ 61 ∧ (32 : UInt8) ≠ 45 ∧ (32 : UInt8) ≠ 47 := by decide
 simp only [binOps, List.mem_cons, List.not_mem_nil, or_false] at h
 rcases h with h | h | h | h | h | h | h | h | h | h | h | h | h <;> subst h
 all_goals first
  | exact sf_2 (by decide) hu
  | exact Jz (by decide) hu
  | exact sf_3 (by decide) hb hu
end Go.Rk
namespace Go.Rk
open Go Go.RowKit
set_option linter.unusedVariables false
theorem sf_bang {s : Bs} (h : hd s ≠ 61) (hs : Sf s) : Sf ([33] ++ s) := by
 have e : Zja (33 :: s) = 1 := by
  rw [Wpb]
  cases s with
  | nil => rfl
  | cons b u =>
   have b1 : b ≠ 61 := h
   simp only [opsL, List.find?, Vyb, Vka, decide_eq_false b1, Bool.and_false]; rfl
 exact sf_op (a := 33) (v := []) rfl e (by rw [List.nil_append, Vka]; rfl) hs
theorem sl_new {v : Bs} (h : Sf v) : Sf ([110, 101, 119, 40] ++ v) := show Sf ([110, 101, 119] ++ (40 :: v)) from (Jn (n := [110, 101, 119]) (by decide) rfl (Jz (by decide) h))
theorem sl_mk1 {v : Bs} (h : Sf v) : Sf ([109, 97, 107, 101, 40, 91, 93, 105, 110, 116, 44, 32] ++ v) := show Sf ([109, 97, 107, 101] ++ (40 :: (91 :: (93 :: ([105, 110, 116] ++ (44 :: (32 :: v))))))) from (Jn (n := [109, 97, 107, 101]) (by decide) rfl (Jz (by decide) (Jz (by decide) (Jz (by decide) (Jn (n := [105, 110, 116]) (by decide) rfl (Jz (by decide) (Vv (by decide) h)))))))
theorem sl_mk2 {v : Bs} (h : Sf v) : Sf ([109, 97, 107, 101, 40, 99, 104, 97, 110, 32, 105, 110, 116, 44, 32] ++ v) := show Sf ([109, 97, 107, 101] ++ (40 :: ([99, 104, 97, 110] ++ (32 :: ([105, 110, 116] ++ (44 :: (32 :: v))))))) from (Jn (n := [109, 97, 107, 101]) (by decide) rfl (Jz (by decide) (Jn (n := [99, 104, 97, 110]) (by decide) rfl (Vv (by decide) (Jn (n := [105, 110, 116]) (by decide) rfl (Jz (by decide) (Vv (by decide) h)))))))
theorem sl_len {v : Bs} (h : Sf v) : Sf ([108, 101, 110, 40] ++ v) := show Sf ([108, 101, 110] ++ (40 :: v)) from (Jn (n := [108, 101, 110]) (by decide) rfl (Jz (by decide) h))
theorem sl_fun0 {v : Bs} (h : Sf v) : Sf ([102, 117, 110, 99, 40, 41, 32] ++ v) := show Sf ([102, 117, 110, 99] ++ (40 :: (41 :: (32 :: v)))) from (Jn (n := [102, 117, 110, 99]) (by decide) rfl (Jz (by decide) (Jz (by decide) (Vv (by decide) h))))
theorem sl_br {v : Bs} (h : Sf v) : Sf ([123, 10] ++ v) := show Sf (123 :: (10 :: v)) from (Jz (by decide) (Vv (by decide) h))
theorem sl_com {v : Bs} (h : Sf v) : Sf ([44, 32] ++ v) := show Sf (44 :: (32 :: v)) from (Jz (by decide) (Vv (by decide) h))
theorem sl_eq {v : Bs} (h : Sf v) : Sf ([32, 61, 32] ++ v) := show Sf (32 :: (61 :: (32 :: v))) from (Vv (by decide) (sf_3 (by decide) (by decide) (Vv (by decide) h)))
theorem sl_def {v : Bs} (h : Sf v) : Sf ([32, 58, 61, 32] ++ v) := show Sf (32 :: (58 :: 61 :: (32 :: v))) from (Vv (by decide) (sf_2 (by decide) (Vv (by decide) h)))
theorem sl_snd {v : Bs} (h : Sf v) : Sf ([32, 60, 45, 32] ++ v) := show Sf (32 :: (60 :: 45 :: (32 :: v))) from (Vv (by decide) (sf_2 (by decide) (Vv (by decide) h)))
theorem sl_var {v : Bs} (h : Sf v) : Sf ([118, 97, 114, 32] ++ v) := show Sf ([118, 97, 114] ++ (32 :: v)) from (Jn (n := [118, 97, 114]) (by decide) rfl (Vv (by decide) h))
theorem sl_go {v : Bs} (h : Sf v) : Sf ([103, 111, 32] ++ v) := show Sf ([103, 111] ++ (32 :: v)) from (Jn (n := [103, 111]) (by decide) rfl (Vv (by decide) h))
theorem sl_dfr {v : Bs} (h : Sf v) : Sf ([100, 101, 102, 101, 114, 32] ++ v) := show Sf ([100, 101, 102, 101, 114] ++ (32 :: v)) from (Jn (n := [100, 101, 102, 101, 114]) (by decide) rfl (Vv (by decide) h))
theorem sl_if {v : Bs} (h : Sf v) : Sf ([105, 102, 32] ++ v) := show Sf ([105, 102] ++ (32 :: v)) from (Jn (n := [105, 102]) (by decide) rfl (Vv (by decide) h))
theorem sl_rt {v : Bs} (h : Sf v) : Sf ([114, 101, 116, 117, 114, 110, 32] ++ v) := show Sf ([114, 101, 116, 117, 114, 110] ++ (32 :: v)) from (Jn (n := [114, 101, 116, 117, 114, 110]) (by decide) rfl (Vv (by decide) h))
theorem sl_for {v : Bs} (h : Sf v) : Sf ([102, 111, 114, 32] ++ v) := show Sf ([102, 111, 114] ++ (32 :: v)) from (Jn (n := [102, 111, 114]) (by decide) rfl (Vv (by decide) h))
theorem sl_cas {v : Bs} (h : Sf v) : Sf ([99, 97, 115, 101, 32] ++ v) := show Sf ([99, 97, 115, 101] ++ (32 :: v)) from (Jn (n := [99, 97, 115, 101]) (by decide) rfl (Vv (by decide) h))
theorem sl_typ {v : Bs} (h : Sf v) : Sf ([116, 121, 112, 101, 32] ++ v) := show Sf ([116, 121, 112, 101] ++ (32 :: v)) from (Jn (n := [116, 121, 112, 101]) (by decide) rfl (Vv (by decide) h))
theorem sl_cls {v : Bs} (h : Sf v) : Sf ([99, 108, 111, 115, 101, 40] ++ v) := show Sf ([99, 108, 111, 115, 101] ++ (40 :: v)) from (Jn (n := [99, 108, 111, 115, 101]) (by decide) rfl (Jz (by decide) h))
theorem sl_prt {v : Bs} (h : Sf v) : Sf ([112, 114, 105, 110, 116, 40] ++ v) := show Sf ([112, 114, 105, 110, 116] ++ (40 :: v)) from (Jn (n := [112, 114, 105, 110, 116]) (by decide) rfl (Jz (by decide) h))
theorem sl_sel {v : Bs} (h : Sf v) : Sf ([115, 101, 108, 101, 99, 116, 32, 123, 10] ++ v) := show Sf ([115, 101, 108, 101, 99, 116] ++ (32 :: (123 :: (10 :: v)))) from (Jn (n := [115, 101, 108, 101, 99, 116]) (by decide) rfl (Vv (by decide) (Jz (by decide) (Vv (by decide) h))))
theorem sl_els {v : Bs} (h : Sf v) : Sf ([32, 101, 108, 115, 101, 32] ++ v) := show Sf (32 :: ([101, 108, 115, 101] ++ (32 :: v))) from (Vv (by decide) (Jn (n := [101, 108, 115, 101]) (by decide) rfl (Vv (by decide) h)))
theorem sl_str {v : Bs} (h : Sf v) : Sf ([32, 115, 116, 114, 117, 99, 116, 32, 123, 10] ++ v) := show Sf (32 :: ([115, 116, 114, 117, 99, 116] ++ (32 :: (123 :: (10 :: v))))) from (Vv (by decide) (Jn (n := [115, 116, 114, 117, 99, 116]) (by decide) rfl (Vv (by decide) (Jz (by decide) (Vv (by decide) h)))))
theorem sl_dfl {v : Bs} (h : Sf v) : Sf ([100, 101, 102, 97, 117, 108, 116, 58, 10] ++ v) := show Sf ([100, 101, 102, 97, 117, 108, 116] ++ (58 :: (10 :: v))) from (Jn (n := [100, 101, 102, 97, 117, 108, 116]) (by decide) rfl (sf_3 (by decide) (by decide) (Vv (by decide) h)))
theorem sl_cn {v : Bs} (h : Sf v) : Sf ([58, 10] ++ v) := show Sf (58 :: (10 :: v)) from (sf_3 (by decide) (by decide) (Vv (by decide) h))
theorem sl_fun {v : Bs} (h : Sf v) : Sf ([102, 117, 110, 99, 32] ++ v) := show Sf ([102, 117, 110, 99] ++ (32 :: v)) from (Jn (n := [102, 117, 110, 99]) (by decide) rfl (Vv (by decide) h))
theorem sl_pb {v : Bs} (h : Sf v) : Sf ([41, 32] ++ v) := show Sf (41 :: (32 :: v)) from (Jz (by decide) (Vv (by decide) h))
theorem Uqb {v : Bs} (h : Sf v) : Sf ([41] ++ v) := show Sf (41 :: v) from (Jz (by decide) h)
theorem sl_lp {v : Bs} (h : Sf v) : Sf ([40] ++ v) := show Sf (40 :: v) from (Jz (by decide) h)
theorem sl_rb {v : Bs} (h : Sf v) : Sf ([93] ++ v) := show Sf (93 :: v) from (Jz (by decide) h)
theorem sl_lb {v : Bs} (h : Sf v) : Sf ([91] ++ v) := show Sf (91 :: v) from (Jz (by decide) h)
theorem sl_dot {v : Bs} (h : Sf v) : Sf ([46] ++ v) := show Sf (46 :: v) from (Jz (by decide) h)
theorem sl_cb {v : Bs} (h : Sf v) : Sf ([125] ++ v) := show Sf (125 :: v) from (Jz (by decide) h)
theorem Yzc {v : Bs} (h : Sf v) : Sf ([32] ++ v) := show Sf (32 :: v) from (Vv (by decide) h)
theorem sl_arr {v : Bs} (hv : nb v = true) (h : Sf v) : Sf ([91, 93, 105, 110, 116] ++ v) := show Sf (91 :: (93 :: ([105, 110, 116] ++ v))) from (Jz (by decide) (Jz (by decide) (Jn (n := [105, 110, 116]) (by decide) hv h)))
theorem sl_chi {v : Bs} (hv : nb v = true) (h : Sf v) : Sf ([99, 104, 97, 110, 32, 105, 110, 116] ++ v) := show Sf ([99, 104, 97, 110] ++ (32 :: ([105, 110, 116] ++ v))) from (Jn (n := [99, 104, 97, 110]) (by decide) rfl (Vv (by decide) (Jn (n := [105, 110, 116]) (by decide) hv h)))
theorem sl_fu0 {v : Bs} (h : Sf v) : Sf ([102, 117, 110, 99, 40, 41] ++ v) := show Sf ([102, 117, 110, 99] ++ (40 :: (41 :: v))) from (Jn (n := [102, 117, 110, 99]) (by decide) rfl (Jz (by decide) (Jz (by decide) h)))
theorem sl_tru {v : Bs} (hv : nb v = true) (h : Sf v) : Sf ([116, 114, 117, 101] ++ v) := show Sf ([116, 114, 117, 101] ++ v) from (Jn (n := [116, 114, 117, 101]) (by decide) hv h)
theorem sl_fls {v : Bs} (hv : nb v = true) (h : Sf v) : Sf ([102, 97, 108, 115, 101] ++ v) := show Sf ([102, 97, 108, 115, 101] ++ v) from (Jn (n := [102, 97, 108, 115, 101]) (by decide) hv h)
theorem sl_nil {v : Bs} (hv : nb v = true) (h : Sf v) : Sf ([110, 105, 108] ++ v) := show Sf ([110, 105, 108] ++ v) from (Jn (n := [110, 105, 108]) (by decide) hv h)
theorem sl_ret {v : Bs} (hv : nb v = true) (h : Sf v) : Sf ([114, 101, 116, 117, 114, 110] ++ v) := show Sf ([114, 101, 116, 117, 114, 110] ++ v) from (Jn (n := [114, 101, 116, 117, 114, 110]) (by decide) hv h)
theorem sl_min {v : Bs} (h : Sf v) : Sf ([45] ++ v) := show Sf (45 :: v) from (Jz (by decide) h)
theorem sl_arw {v : Bs} (h : Sf v) : Sf ([60, 45] ++ v) := show Sf (60 :: 45 :: v) from (sf_2 (by decide) h)
theorem sl_ast {v : Bs} (h : Sf v) : Sf ([42] ++ v) := show Sf (42 :: v) from (Jz (by decide) h)
theorem sl_tab {v : Bs} (h : Sf v) : Sf ([9] ++ v) := Vv (by decide) h
theorem sf_ty {t : Nd} (h : isTypeB t = true) {u : Bs} (hu : nb u = true) (hs : Sf u) : Sf (typeX t ++ u) := by
 have hl := typ_len h
 unfold isTypeB at h
 cases h1 : decide (t.kind = 8)
 ·rw [h1] at h
  cases h2 : decide (t.kind = 7)
  ·rw [h2] at h; cases h
  ·rw [h2] at h
   have h : (typeNameB t.text && leafB t) = true := h
   have h3 := (Ypa _ _).1 (Bool.and_eq_true_iff.1 h).1
   rw [typeX, h1, cond_false]
   simp only [Ul, List.mem_cons, List.not_mem_nil, or_false] at h3
   rcases h3 with e | e | e | e | e | e | e | e | e | e <;> rw [e]
   all_goals first
    | exact Jn (by decide) hu hs
    | exact sl_arr hu hs
    | exact sl_chi hu hs
    | exact sl_fu0 hs
 ·rw [h1] at h
  have h : (nameB t.text && leafB t) = true := h
  rw [typeX, h1, cond_true, List.append_assoc]
  exact sl_ast (Xia (Bool.and_eq_true_iff.1 h).1 hu hs)
structure Se (t : Nd) : Prop where
 e : exprB t = true → ∀ k u, nb u = true → Sf u → Sf ((txT t).ex k ++ u)
 ls : blockB t = true → ∀ k u, Sf u → Sf ((txT t).ls k ++ u)
 st : stmtB t = true → ∀ k u, nb u = true → Sf u → Sf ((txT t).st k ++ u)
theorem Vzb {t : Nd} (h : Se t) (hb : blockB t = true) (k : Nat) {u : Bs} (hs : Sf u) : Sf (blkX (txT t) k ++ u) := by
 rw [blkX]; simp only [List.append_assoc]
 exact sl_br (h.ls hb (k + 1) _ (Zlb k (sl_cb hs)))
theorem Yzb {t : Nd} (h : Se t) (hx : exprB t = true) (q : Bool) (k : Nat) {u : Bs} (hu : nb u = true) (hs : Sf u) : Sf (parX q ((txT t).ex k) ++ u) := by
 cases q
 ·exact h.e hx k u hu hs
 ·rw [parX, cond_true]; simp only [List.append_assoc]
  exact sl_lp (h.e hx k _ rfl (Uqb hs))
theorem se_args (k : Nat) {u : Bs} (hu : nb u = true) (hs : Sf u) : ∀ (l : List Nd), (∀ y ∈ l, Se y ∧ exprB y = true) → Sf (joinX (l.map fun y => (txT y).ex k) ++ u) := by
 intro l
 induction l with
 | nil => intro _; exact hs
 | cons y l ih =>
  intro h
  obtain ⟨h1, h2⟩ := h y List.mem_cons_self
  cases l with
  | nil =>
   rw [show joinX ([y].map fun y => (txT y).ex k) ++ u = (txT y).ex k ++ u by simp [joinX]]
   exact h1.e h2 k u hu hs
  | cons z l =>
   rw [show joinX ((y :: z :: l).map fun y => (txT y).ex k) ++ u = (txT y).ex k ++ ([44, 32] ++ (joinX ((z :: l).map fun y => (txT y).ex k) ++ u)) by simp [joinX]]
   exact h1.e h2 k _ rfl (sl_com (ih fun v hv => h v (List.mem_cons_of_mem _ hv)))
theorem se_k {t : Nd} (ih : ∀ y, count y < count t → okNd y → Se y) (ok : okNd t) {i : Nat} (h : i < t.kids.length) : Se (kidAt t i) := ih _ (Xf h) (ok_at ok h)
theorem se_e {t : Nd} (ih : ∀ y, count y < count t → okNd y → Se y) (ok : okNd t) (hx : exprB t = true) (k : Nat) (u : Bs) (hu : nb u = true) (hs : Sf u) : Sf ((txT t).ex k ++ u) := by
 have hp : permF t = true := (Bool.and_eq_true_iff.1 hx).2
 have K := fun {i : Nat} (h : i < t.kids.length) => se_k ih ok h
 rw [tx_ex]
 rcases Ysc hx with h | h | h | h | h | h | h | h | h | h | h | h | h | h | h
 ·have h0 := sh24 h hx
  have hok : rng t.num := by rw [Zdb] at ok; exact ok.2.1
  unfold rng at hok
  rw [Yrc h]; exact sf_dig (by omega) hu hs
 ·rw [Vwb h]
  cases decide (t.num = 1)
  ·exact sl_fls hu hs
  ·exact sl_tru hu hs
 ·rw [exX_26 h]; exact sl_nil hu hs
 ·rw [exX_27 h]; exact Xia (Qp hp (by rw [h]; decide)) hu hs
 ·rw [exX_34 h]; simp only [List.append_assoc]
  exact sl_new (Xia (Qp hp (by rw [h]; decide)) rfl (Uqb hs))
 ·obtain ⟨_, hl, he⟩ := sh28 h hx
  rw [exX_28 h, basX, Xm (by omega)]; simp only [List.append_assoc]
  exact Yzb (K (i := 0) (by omega)) he _ k rfl (sl_dot (Xia (Qp hp (by rw [h]; decide)) hu hs))
 ·obtain ⟨hl, he, he1⟩ := sh29 h hx
  rw [exX_29 h, basX, Xm (by omega), Xm (by omega)]; simp only [List.append_assoc]
  exact Yzb (K (i := 0) (by omega)) he _ k rfl (sl_lb ((K (i := 1) (by omega)).e he1 k _ rfl (sl_rb hs)))
 ·obtain ⟨hl, he⟩ := sh30 h hx
  have em : (((t.kids.map txT).drop 1).map fun y => y.ex k) = (t.kids.drop 1).map fun y => (txT y).ex k := by
   rw [← List.map_drop, List.map_map]; rfl
  rw [exX_30 h, em, basX, Xm (by omega)]; simp only [List.append_assoc]
  refine Yzb (K (i := 0) (by omega)) (Vu he (by omega)) _ k rfl (sl_lp (se_args k rfl (Uqb hs) _ fun y hy => ?_))
  have hy := List.mem_of_mem_drop hy
  exact ⟨ih y (Xz hy) (Vc ok hy), List.all_eq_true.1 he y hy⟩
 ·obtain ⟨_, hl, he⟩ := sh31 h hx
  have ht := Yfa hp
  unfold textB' at ht; rw [h] at ht
  have ht : (decide (t.text = [45]) || decide (t.text = [33])) = true := ht
  simp only [Bool.or_eq_true, decide_eq_true_eq] at ht
  rw [exX_31 h, oprX, Xm (by omega), List.append_assoc]
  have h0 := Yzb (K (i := 0) (by omega)) he (decide ((kidAt t 0).kind = 32)) k hu hs
  rcases ht with e | e <;> rw [e]
  ·exact sl_min h0
  ·exact sf_bang ((hx_par fun _ => Jva _ k u he hu).ne (by decide)) h0
 ·obtain ⟨hl, he⟩ := sh33 h hx
  rw [exX_33 h, oprX, Xm (by omega), List.append_assoc]
  exact sl_arw (Yzb (K (i := 0) (by omega)) he _ k hu hs)
 ·obtain ⟨_, hl, he, he1⟩ := sh32 h hx
  have ht := Yfa hp
  unfold textB' at ht; rw [h] at ht
  have ht : anyS binOps t.text = true := ht
  rw [exX_32 h, oprX, oprX, Xm (by omega), Xm (by omega)]; simp only [List.append_assoc]
  exact Yzb (K (i := 0) (by omega)) he _ k rfl (Yzc (sf_bop ht (Yzc (Yzb (K (i := 1) (by omega)) he1 _ k hu hs))))
 ·obtain ⟨hl, he⟩ := sh35 h hx
  rw [exX_35 h, Xm (by omega)]; simp only [List.append_assoc]
  exact sl_mk1 ((K (i := 0) (by omega)).e he k _ rfl (Uqb hs))
 ·obtain ⟨hl, he⟩ := sh36 h hx
  rw [exX_36 h, Xm (by omega)]; simp only [List.append_assoc]
  exact sl_mk2 ((K (i := 0) (by omega)).e he k _ rfl (Uqb hs))
 ·obtain ⟨hl, he⟩ := sh37 h hx
  rw [exX_37 h, Xm (by omega)]; simp only [List.append_assoc]
  exact sl_len ((K (i := 0) (by omega)).e he k _ rfl (Uqb hs))
 ·obtain ⟨hl, hb⟩ := sh38 h hx
  rw [exX_38 h, Xm (by omega), List.append_assoc]
  exact sl_fun0 (Vzb (K (i := 0) (by omega)) hb k hs)
theorem se_ls {t : Nd} (ih : ∀ y, count y < count t → okNd y → Se y) (ok : okNd t) (hb : blockB t = true) (k : Nat) (u : Bs) (hs : Sf u) : Sf ((txT t).ls k ++ u) := by
 have hall := sh10 hb
 rw [Unb]
 have go : ∀ l : List Nd, (∀ y ∈ l, y ∈ t.kids) → Sf ((l.flatMap fun c => (tabsL k ++ (txT c).st k) ++ [10]) ++ u) := by
  intro l
  induction l with
  | nil => intro _; exact hs
  | cons y l ihl =>
   intro h
   have hy := h y List.mem_cons_self
   rw [show ((y :: l).flatMap fun c => (tabsL k ++ (txT c).st k) ++ [10]) ++ u = tabsL k ++ ((txT y).st k ++ ([10] ++ ((l.flatMap fun c => (tabsL k ++ (txT c).st k) ++ [10]) ++ u))) by simp]
   exact Zlb k ((ih y (Xz hy) (Vc ok hy)).st (List.all_eq_true.1 hall y hy) k _ rfl (sf_nl (ihl fun z hz => h z (List.mem_cons_of_mem _ hz))))
 exact go t.kids fun y hy => hy
theorem se_cs {t : Nd} (ih : ∀ y, count y < count t → okNd y → Se y) (ok : okNd t) (k : Nat) (u : Bs) (hs : Sf u) (hy : caseB t = true) : Sf ((txT t).cs k ++ u) := by
 obtain ⟨hk, hyl, hcm, hbl⟩ := sh23 hy
 rw [tx_cs, csX, Xm (by omega), Xm (by omega)]
 cases hb : decide ((kidAt t 0).kind = 9)
 ·have h0 := (Vtb hcm).elim (fun h => absurd h (of_decide_eq_false hb)) id
  rw [cond_false]; simp only [List.append_assoc]
  exact Zlb k (sl_cas ((se_k ih ok (i := 0) (by omega)).st h0 k _ rfl (sl_cn ((se_k ih ok (i := 1) (by omega)).ls hbl (k + 1) u hs))))
 ·rw [cond_true]; simp only [List.append_assoc]
  exact Zlb k (sl_dfl ((se_k ih ok (i := 1) (by omega)).ls hbl (k + 1) u hs))
theorem se_st {t : Nd} (ih : ∀ y, count y < count t → okNd y → Se y) (ok : okNd t) (hx : stmtB t = true) (k : Nat) (u : Bs) (hu : nb u = true) (hs : Sf u) : Sf ((txT t).st k ++ u) := by
 have hp : permF t = true := (Bool.and_eq_true_iff.1 hx).2
 have K := fun {i : Nat} (h : i < t.kids.length) => se_k ih ok h
 rw [Zqa]
 rcases Vxb hx with h | h | h | h | h | h | h | h | h | h | h | h | h | h
 ·have hv := sh6s h hx
  obtain ⟨_, hl, hty, h1⟩ := sh6 hv
  rw [stX_6 h, varX, Xm (by omega)]; simp only [List.append_assoc]
  refine sl_var (Xia (Qp hp (by rw [h]; decide)) rfl (Yzc (sf_ty hty ?_ ?_)))
  ·cases decide ((kidAt t 1).kind = 9)
   ·rfl
   ·exact hu
  ·cases hb : decide ((kidAt t 1).kind = 9)
   ·have he := h1.elim (fun h => absurd (Qn h).1 (of_decide_eq_false hb)) id
    rw [cond_false, List.append_assoc]; exact sl_eq ((K (i := 1) (by omega)).e he k u hu hs)
   ·exact hs
 ·have hb := sh10s h hx
  rw [stX_10 h, List.flatMap_map]; simp only [List.append_assoc]
  have := se_ls ih ok hb (k + 1) _ (Zlb k (sl_cb hs))
  rw [Unb] at this
  simp only [List.append_assoc] at this
  exact sl_br this
 ·obtain ⟨_, hl, he⟩ := sh11 h hx
  rw [stX_11 h, Xm (by omega)]; simp only [List.append_assoc]
  exact Xia (Qp hp (by rw [h]; decide)) rfl (sl_def ((K (i := 0) (by omega)).e he k u hu hs))
 ·obtain ⟨hl, he, he1⟩ := sh12 h hx
  rw [stX_12 h, Xm (by omega), Xm (by omega)]; simp only [List.append_assoc]
  exact (K (i := 0) (by omega)).e he k _ rfl (sl_eq ((K (i := 1) (by omega)).e he1 k u hu hs))
 ·obtain ⟨hl, he⟩ := sh13 h hx
  rw [stX_13 h, Xm (by omega)]; exact (K (i := 0) (by omega)).e he k u hu hs
 ·obtain ⟨hl, he⟩ := sh14 h hx
  rw [stX_14 h, Xm (by omega), List.append_assoc]; exact sl_go ((K (i := 0) (by omega)).e he k u hu hs)
 ·obtain ⟨hl, he⟩ := sh15 h hx
  rw [stX_15 h, Xm (by omega), List.append_assoc]; exact sl_dfr ((K (i := 0) (by omega)).e he k u hu hs)
 ·obtain ⟨hl, he, he1⟩ := sh16 h hx
  rw [stX_16 h, Xm (by omega), Xm (by omega)]; simp only [List.append_assoc]
  exact (K (i := 0) (by omega)).e he k _ rfl (sl_snd ((K (i := 1) (by omega)).e he1 k u hu hs))
 ·obtain ⟨hl, he⟩ := sh17 h hx
  rw [stX_17 h, Xm (by omega)]; simp only [List.append_assoc]
  exact sl_cls ((K (i := 0) (by omega)).e he k _ rfl (Uqb hs))
 ·obtain ⟨hl, he⟩ := sh21 h hx
  rw [stX_21 h, Xm (by omega)]; simp only [List.append_assoc]
  exact sl_prt ((K (i := 0) (by omega)).e he k _ rfl (Uqb hs))
 ·obtain ⟨hl, he, hb1, h2⟩ := sh18 (sh18s h hx)
  rw [stX_18 h, ifX, Xm (by omega), Xm (by omega), Xm (by omega)]; simp only [List.append_assoc]
  refine sl_if ((K (i := 0) (by omega)).e he k _ rfl (Yzc (Vzb (K (i := 1) (by omega)) hb1 k ?_)))
  rcases h2 with h2 | h2 | h2
  ·rw [Yca h2]
   show Sf (([32, 101, 108, 115, 101, 32] ++ blkX (txT (kidAt t 2)) k) ++ u)
   rw [List.append_assoc]; exact sl_els (Vzb (K (i := 2) (by omega)) h2 k hs)
  ·have e2 : (kidAt t 2).kind = 18 := of_decide_eq_true (Bool.and_eq_true_iff.1 h2).1
   rw [e2]
   show Sf (([32, 101, 108, 115, 101, 32] ++ (txT (kidAt t 2)).st k) ++ u)
   rw [List.append_assoc]
   refine sl_els ((K (i := 2) (by omega)).st ?_ k u hu hs)
   rw [stmtB, e2, (Bool.and_eq_true_iff.1 h2).2]; rfl
  ·rw [(Qn h2).1]; exact hs
 ·have hcs := sh22 h hx
  rw [stX_22 h, List.flatMap_map]; simp only [List.append_assoc]
  refine sl_sel ?_
  have go : ∀ l : List Nd, (∀ y ∈ l, y ∈ t.kids) → Sf ((l.flatMap fun y => (txT y).cs k) ++ (tabsL k ++ ([125] ++ u))) := by
   intro l
   induction l with
   | nil => intro _; exact Zlb k (sl_cb hs)
   | cons y l ihl =>
    intro hl
    have hy := hl y List.mem_cons_self
    rw [List.flatMap_cons, List.append_assoc]
    exact se_cs (fun z hz oz => ih z (by have := Xz hy; omega) oz) (Vc ok hy) k _ (ihl fun z hz => hl z (List.mem_cons_of_mem _ hz)) (List.all_eq_true.1 hcs y hy)
  exact go t.kids fun y hy => hy
 ·obtain ⟨hl, he⟩ := sh20 h hx
  rw [stX_20 h]
  cases hb : lenK t 0
  ·have hl1 : t.kids.length = 1 := by unfold lenK at hb; have := of_decide_eq_false hb; omega
   rw [cond_false, Xm (by omega), List.append_assoc]
   exact sl_rt ((K (i := 0) (by omega)).e (Vu he (by omega)) k u hu hs)
  ·exact sl_ret hu hs
 ·obtain ⟨hl, h0, hb1⟩ := sh19 h hx
  rw [stX_19 h, Xm (by omega), Xm (by omega)]
  cases hb : decide ((kidAt t 0).kind = 9)
  ·have he := h0.elim (fun h => absurd (Qn h).1 (of_decide_eq_false hb)) id
   rw [cond_false]; simp only [List.append_assoc]
   exact sl_for ((K (i := 0) (by omega)).e he k _ rfl (Yzc (Vzb (K (i := 1) (by omega)) hb1 k hs)))
  ·rw [cond_true, List.append_assoc]; exact sl_for (Vzb (K (i := 1) (by omega)) hb1 k hs)
theorem se_all : ∀ (n : Nat) (t : Nd), count t ≤ n → okNd t → Se t := by
 intro n
 induction n with
 | zero => intro t h; exact absurd h (by have := Wg t; omega)
 | succ n ihn =>
  intro t hc ok
  have ih : ∀ y, count y < count t → okNd y → Se y := fun y hy hk => ihn y (by omega) hk
  exact { e := fun hx k u hu hs => se_e ih ok hx k u hu hs, ls := fun hb k u hs => se_ls ih ok hb k u hs, st := fun hx k u hu hs => se_st ih ok hx k u hu hs }
theorem Xac {t : Nd} (h : fieldB t = true) {u : Bs} (hu : nb u = true) (hs : Sf u) : Sf (fieldX t ++ u) := by
 obtain ⟨hk, _, hl, hty⟩ := sh3 h
 have hp : permF t = true := (Bool.and_eq_true_iff.1 h).2
 rw [fieldX]; simp only [List.append_assoc]
 exact Xia (Qp hp (by rw [hk]; decide)) rfl (Yzc (sf_ty hty hu hs))
theorem sf_params {u : Bs} (hu : nb u = true) (hs : Sf u) : ∀ (l : List Nd), l.all fieldB = true → Sf (joinX (l.map fieldX) ++ u) := by
 intro l
 induction l with
 | nil => intro _; exact hs
 | cons y l ih =>
  intro h
  simp only [List.all_cons, Bool.and_eq_true] at h
  cases l with
  | nil => rw [show joinX ([y].map fieldX) ++ u = fieldX y ++ u by simp [joinX]]; exact Xac h.1 hu hs
  | cons z l =>
   rw [show joinX ((y :: z :: l).map fieldX) ++ u = fieldX y ++ ([44, 32] ++ (joinX ((z :: l).map fieldX) ++ u)) by simp [joinX]]
   exact Xac h.1 rfl (sl_com (ih h.2))
theorem sf_fields {u : Bs} (hs : Sf u) : ∀ (l : List Nd), l.all fieldB = true → Sf ((l.flatMap fun t => ([9] ++ fieldX t) ++ [10]) ++ u) := by
 intro l
 induction l with
 | nil => intro _; exact hs
 | cons y l ih =>
  intro h
  simp only [List.all_cons, Bool.and_eq_true] at h
  rw [show ((y :: l).flatMap fun t => ([9] ++ fieldX t) ++ [10]) ++ u = [9] ++ (fieldX y ++ ([10] ++ ((l.flatMap fun t => ([9] ++ fieldX t) ++ [10]) ++ u))) by simp]
  exact sl_tab (Xac h.1 rfl (sf_nl (ih h.2)))
theorem sf_decl {t : Nd} (ok : okNd t) (hd0 : declB t = true) {u : Bs} (hu : nb u = true) (hs : Sf u) : Sf (declX t ++ u) := by
 have K : ∀ {i : Nat}, i < t.kids.length → Se (kidAt t i) := fun {i} h => se_all _ _ (Nat.le_refl _) (ok_at ok h)
 have hp : permF t = true := (Bool.and_eq_true_iff.1 (Bool.and_eq_true_iff.1 hd0).1).2
 have hrd := (Zya t).trans hd0
 unfold Jo at hrd
 rcases Yxc hd0 with h | h | h
 ·rw [h] at hrd
  have hrd : (nameB t.text && t.kids.all fieldB) = true := hrd
  rw [Bool.and_eq_true] at hrd
  have e : declX t ++ u = [116, 121, 112, 101, 32] ++ (t.text ++ ([32, 115, 116, 114, 117, 99, 116, 32, 123, 10] ++ ((t.kids.flatMap fun t => ([9] ++ fieldX t) ++ [10]) ++ ([125] ++ u)))) := by
   rw [declX, h]
   show (((([116, 121, 112, 101, 32] ++ t.text) ++ [32, 115, 116, 114, 117, 99, 116, 32, 123, 10]) ++ t.kids.flatMap fun f => (((([9] ++ f.text) ++ [32]) ++ typeX (kidAt f 0)) ++ [10])) ++ [125]) ++ u = _
   simp [fieldX]
  rw [e]
  exact sl_typ (Xia hrd.1 rfl (sl_str (sf_fields (sl_cb hs) _ hrd.2)))
 ·rw [h] at hrd
  have hrd : (varB t && noneB (kidAt t 1)) = true := hrd
  rw [Bool.and_eq_true] at hrd
  rw [declX, h]
  show Sf ((txT t).st 0 ++ u)
  refine (se_all _ t (Nat.le_refl _) ok).st ?_ 0 u hu hs
  rw [stmtB, h, hp]; rfl
 ·rw [h] at hrd
  have hrd : (bif !nameB t.text || !lenK t 3 then false else (((decide ((kidAt t 0).kind = 5) && plainB (kidAt t 0)) && (kidAt t 0).kids.all fieldB) && (noneB (kidAt t 1) || isTypeB (kidAt t 1))) && blockB (kidAt t 2)) = true := hrd
  rw [Whb] at hrd
  simp only [Bool.and_eq_true, Bool.or_eq_true, decide_eq_true_eq] at hrd
  obtain ⟨⟨hn, hl3⟩, ⟨⟨⟨h5, hp5⟩, hfs⟩, hres⟩, hb⟩ := hrd
  have hl : t.kids.length = 3 := by unfold lenK at hl3; have := of_decide_eq_true hl3; omega
  have e : declX t ++ u = [102, 117, 110, 99, 32] ++ (t.text ++ ([40] ++ (joinX ((kidAt t 0).kids.map fieldX) ++ ([41, 32] ++ ((bif decide ((kidAt t 1).kind = 9) then [] else typeX (kidAt t 1) ++ [32]) ++ (blkX (txT (kidAt t 2)) 0 ++ u)))))) := by
   rw [declX, h]
   show (((((([102, 117, 110, 99, 32] ++ t.text) ++ [40]) ++ joinX ((kidAt t 0).kids.map fieldX)) ++ [41, 32]) ++ (bif decide ((kidAt t 1).kind = 9) then [] else typeX (kidAt t 1) ++ [32])) ++ blkX (txT (kidAt t 2)) 0) ++ u = _
   simp
  rw [e]
  refine sl_fun (Xia hn rfl (sl_lp (sf_params rfl (sl_pb ?_) _ hfs)))
  have hblk := Vzb (K (i := 2) (by omega)) hb 0 hs
  cases hk9 : decide ((kidAt t 1).kind = 9)
  ·have hty := hres.elim (fun h => absurd (Qn h).1 (of_decide_eq_false hk9)) id
   rw [cond_false, List.append_assoc]; exact sf_ty hty rfl (Yzc hblk)
  ·exact hblk
theorem sf_print {t : Nd} (hv : validB t = true) (ok : okNd t) : Sf (printX t) := by
 rw [printX, hv, cond_true]
 have go : ∀ l : List Nd, (∀ y ∈ l, y ∈ t.kids) → Sf (l.flatMap fun d => declX d ++ [10]) := by
  intro l
  induction l with
  | nil => intro _; exact sf_nil
  | cons y l ih =>
   intro h
   have hy := h y List.mem_cons_self
   rw [List.flatMap_cons, List.append_assoc]
   exact sf_decl (Vc ok hy) (List.all_eq_true.1 (Yvb hv) y hy) rfl (sf_nl (ih fun z hz => h z (List.mem_cons_of_mem _ hz)))
 exact go t.kids fun y hy => hy
theorem scan_print {t : Nd} (hv : validB t = true) (ok : okNd t) : (decide ((scanF (printX t)).2.2 = 0) || decide ((printX t).length > 20000)) = true := by
 by_cases h : 20000 < (printX t).length
 ·rw [decide_eq_true (show (printX t).length > 20000 from h), Bool.or_true]
 ·have := sf_print hv ok [] [] [] (printX t).length (Nat.le_refl _)
  have e : (allF (printX t)).2.2.2 = 0 := by
   rw [allF, decide_eq_false (show ¬ (20000 : Int) < ((printX t).length : Nat) by omega), cond_false]; exact this
  have e2 : (scanF (printX t)).2.2 = 0 := by rw [scanF, e]; rfl
  rw [e2]; rfl
end Go.Rk
namespace Go.Rk
open Go Go.RowKit
theorem Xab (c : Int) (w : World) : Ret PP Ycb #[.int .u8 c] w fun v w' => v = .bool (letterB c) ∧ G w w' := by
 have g := G.refl w
 refine Ym (m := 21) Qaa rfl rfl [(0, True, _)] (Za rfl (Zd _)) ?_
 refine Zg fun K1 hK1 => ?_
 refine Zf [3] ?_
 refine Zc rfl (fun _ => Ze Zl) ?_
 refine Zh (hK1 _ _ ?_)
 refine Zg fun K2 hK2 => ?_
 refine Zf [3, 3, 3, 3, 3, 3, 3, 3, 3, 3, 3, 3, 3, 3, 3, 3, 3, 3, 3] ?_
 refine Zc rfl (fun _ => Zi (Zb rfl)) ?_
 refine Zc rfl (fun _ => Wla (Zb rfl) Zl) ?_
 refine Zc rfl (fun _ => Zi (Zb rfl)) ?_
 refine Zs rfl rfl rfl (fun _ => Zi (Zb rfl)) ?_
 refine Zs rfl rfl rfl (fun _ => Zxb (Zy rfl id) Zl) ?_
 refine Zc rfl (fun _ => Ye (Zb rfl) (Zy rfl id)) ?_
 refine Zc rfl (fun _ => Zi (Zb rfl)) ?_
 refine Zs rfl rfl rfl (fun _ => Zi (Zb rfl)) ?_
 refine Zs rfl rfl rfl (fun _ => Wla (Zy rfl id) Zl) ?_
 refine Zs rfl rfl rfl (fun _ => Zi (Zy rfl id)) ?_
 refine Zs rfl rfl rfl (fun _ => Zi (Zb rfl)) ?_
 refine Zs rfl rfl rfl (fun _ => Zxb (Zy rfl id) Zl) ?_
 refine Zs rfl rfl rfl (fun _ => Ye (Zy rfl id) (Zy rfl id)) ?_
 refine Zc rfl (fun _ => Yz (Zb rfl) (Zy rfl id)) ?_
 refine Zc rfl (fun _ => Zi (Zb rfl)) ?_
 refine Zs rfl rfl rfl (fun _ => Zi (Zb rfl)) ?_
 refine Zs rfl rfl rfl (fun _ => Yg (Zy rfl id) Zl) ?_
 refine Zc rfl (fun _ => Yz (Zb rfl) (Zy rfl id)) ?_
 refine Zc rfl (fun _ => Ze (Zb rfl)) ?_
 refine Zj [(2, _, _)] (Za rfl (Zd _)) ?_
 refine Zh (hK2 _ _ ?_)
 refine Yf (Yj rfl rfl ?_)
 exact ⟨rfl, g⟩
theorem Zmb (c : Int) (w : World) : Ret PP Xrb #[.int .u8 c] w fun v w' => v = .bool (digitB c) ∧ G w w' := by
 have g := G.refl w
 refine Ym (m := 9) Jaa rfl rfl [(0, True, _)] (Za rfl (Zd _)) ?_
 refine Zg fun K1 hK1 => ?_
 refine Zf [3] ?_
 refine Zc rfl (fun _ => Ze Zl) ?_
 refine Zh (hK1 _ _ ?_)
 refine Zg fun K2 hK2 => ?_
 refine Zf [3, 3, 3, 3, 3, 3, 3] ?_
 refine Zc rfl (fun _ => Zi (Zb rfl)) ?_
 refine Zc rfl (fun _ => Wla (Zb rfl) Zl) ?_
 refine Zc rfl (fun _ => Zi (Zb rfl)) ?_
 refine Zs rfl rfl rfl (fun _ => Zi (Zb rfl)) ?_
 refine Zs rfl rfl rfl (fun _ => Zxb (Zy rfl id) Zl) ?_
 refine Zc rfl (fun _ => Ye (Zb rfl) (Zy rfl id)) ?_
 refine Zc rfl (fun _ => Ze (Zb rfl)) ?_
 refine Zj [(2, _, _)] (Za rfl (Zd _)) ?_
 refine Zh (hK2 _ _ ?_)
 refine Yf (Yj rfl rfl ?_)
 exact ⟨rfl, g⟩
def intOk (l : List UInt8) : Bool := (decide (l.length ≤ 19) && !(decide ((1 : Int) < l.length) && decide (cAt l 0 = 48))) && decide ((valN 0 l : Int) < 9223372036854775808)
theorem valN_snoc (a : Nat) (l : List UInt8) (c : UInt8) : valN a (l ++ [c]) = valN a l * 10 + (c.toNat - 48) := by simp [valN]
theorem valN_bound (l : List UInt8) (h : allD l) : valN 0 l < 10 ^ l.length := by
 have key : ∀ (l : List UInt8), allD l → ∀ a, valN a l < (a + 1) * 10 ^ l.length := by
  intro l
  induction l with
  | nil => intro _ a; show a < (a + 1) * 1; omega
  | cons c l ih =>
   intro h a
   have hc := h c (List.mem_cons_self ..)
   have := ih (fun x hx => h x (List.mem_cons_of_mem _ hx)) (a * 10 + (c.toNat - 48))
   rw [Vza, List.length_cons, Nat.pow_succ]
   refine Nat.lt_of_lt_of_le this ?_
   rw [show (a + 1) * (10 ^ l.length * 10) = ((a + 1) * 10) * 10 ^ l.length by rw [Nat.mul_assoc, Nat.mul_comm 10]]
   exact Nat.mul_le_mul_right _ (by omega)
 simpa using key l h 0
theorem valN_take {l : List UInt8} {i : Nat} (h : i < l.length) (hd : allD l) : (valN 0 (l.take (i + 1)) : Int) = 10 * (valN 0 (l.take i) : Int) + (cAt l i - 48) ∧ valN 0 (l.take i) < 10 ^ i ∧ 48 ≤ cAt l i ∧ cAt l i ≤ 57 := by
 have hm : l[i] ∈ l := List.getElem_mem h
 have hc := hd _ hm
 have ec : cAt l i = (l[i].toNat : Int) := by simp [cAt, List.getD_eq_getElem?_getD, List.getElem?_eq_getElem h]
 have hb := valN_bound (l.take i) (fun c hc => hd c (List.mem_of_mem_take hc))
 rw [List.length_take, Nat.min_eq_left (by omega)] at hb
 refine ⟨?_, hb, by omega, by omega⟩
 rw [List.take_succ_eq_append_getElem h, valN_snoc, ec]
 omega
theorem integer_ok (l : List UInt8) (hd : allD l) (hne : l ≠ []) (hl : l.length ≤ 20000) (w : World) : Ret PP Zkc #[Str l] w fun v w' => (∃ x, v = .tuple #[.int .i64 x, .bool (intOk l)]) ∧ G w w' := by
 have g := G.refl w
 refine Ym (m := 46) Wzb rfl rfl [(0, True, _)] (Za rfl (Zd _)) ?_
 refine Zg fun K1 hK1 => ?_
 refine Zf [3, 3] ?_
 refine Zc rfl (fun _ => Ze Zl) ?_
 refine Zc rfl (fun _ => Ze Zl) ?_
 refine Zh (hK1 _ _ ?_)
 refine Zg fun K2 hK2 => ?_
 refine Zg fun K3 hK3 => ?_
 refine Zf [3, 3, 3, 3, 3, 3, 3, 3, 3, 3, 3, 3, 3, 3, 3, 3, 3] ?_
 refine Zc rfl (fun _ => Zi (Zb rfl)) ?_
 refine Zc rfl (fun _ => Yh (Zb rfl) Zl) ?_
 refine Zc rfl (fun _ => Zi (Zb rfl)) ?_
 refine Zs rfl rfl rfl (fun _ => Zi (Zb rfl)) ?_
 refine Zs rfl rfl rfl (fun _ => Wz Yv (Zy rfl id)) ?_
 refine Zs rfl rfl rfl (fun _ => Js (Zy rfl id) Zl) ?_
 refine Zc rfl (fun _ => Yz (Zb rfl) (Zy rfl id)) ?_
 refine Zc rfl (fun _ => Zi (Zb rfl)) ?_
 refine Zs rfl rfl rfl (fun _ => Zi (Zb rfl)) ?_
 refine Zs rfl rfl rfl (fun _ => Wz Yv (Zy rfl id)) ?_
 refine Zs rfl rfl rfl (fun _ => Js (Zy rfl id) Zl) ?_
 refine Zs rfl rfl rfl (fun _ => Zi (Zy rfl id)) ?_
 refine Zs rfl rfl rfl (fun _ => Zi (Zb rfl)) ?_
 refine Zs rfl rfl rfl (fun _ => Uf Yv (Zy rfl id) Zl (fun hc => by have := of_decide_eq_true hc.2; omega)) ?_
 refine Zs rfl rfl rfl (fun _ => Yg (Zy rfl id) Zl) ?_
 refine Zs rfl rfl rfl (fun _ => Ye (Zy rfl id) (Zy rfl id)) ?_
 refine Zc rfl (fun _ => Yz (Zb rfl) (Zy rfl id)) ?_
 refine Zj [(0, _, _), (2, _, _), (3, _, _), (22, _, _)] (Za rfl (Za rfl (Za rfl (Za rfl (Zd _))))) ?_
 refine Zh (hK3 _ _ ?_)
 refine Zz (Zb rfl) (fun h1 => ?_) (fun h1 => ?_)
 ·have hN : intOk l = false := by
   rw [intOk]
   rw [decide_eq_false hne, Bool.false_or] at h1
   by_cases h19 : l.length ≤ 19
   ·rw [decide_eq_false (by omega : ¬ (19 : Int) < l.length), Bool.false_or] at h1
    replace h1 : (decide ((1 : Int) < l.length) && decide (cAt l 0 = 48)) = true := h1
    rw [h1]; simp
   ·rw [decide_eq_false h19]; rfl
  refine Zg fun K4 hK4 => ?_
  refine Zf [3, 3] ?_
  refine Zc rfl (fun _ => Ze Zl) ?_
  refine Zc rfl (fun _ => Ze Zl) ?_
  refine Zj [(0, _, _), (2, _, _), (3, _, _)] (Za rfl (Za rfl (Za rfl (Zd _)))) ?_
  refine Zh (hK4 _ _ ?_)
  refine Yf (Zsa (ts := [2, 3]) (vs := [_, _]) rfl rfl rfl ?_)
  exact ⟨⟨0, by rw [hN]⟩, g⟩
 have h19 : l.length ≤ 19 := by
  cases h0 : decide ((19 : Int) < l.length)
  ·have := of_decide_eq_false h0; omega
  ·rw [h0] at h1; simp at h1
 have hN : intOk l = decide ((valN 0 l : Int) < 9223372036854775808) := by
  rw [intOk]
  rw [decide_eq_false hne, decide_eq_false (by omega : ¬ (19 : Int) < l.length), Bool.false_or, Bool.false_or] at h1
  replace h1 : (decide ((1 : Int) < l.length) && decide (cAt l 0 = 48)) = false := h1
  rw [h1, decide_eq_true h19, Bool.not_false, Bool.and_true, Bool.true_and]
 have h10 : (10 : Nat) ^ 19 = 10000000000000000000 := by decide
 refine Yq (hK2 _ _ ?_)
 refine Yi [(0, _, _), (2, _, _), (3, _, _)] (Za rfl (Za rfl (Za rfl (Zd _)))) ?_
 refine Zg fun K5 hK5 => ?_
 refine Zf [3] ?_
 refine Zc rfl (fun _ => Ze Zl) ?_
 refine Zh (hK5 _ _ ?_)
 refine Zg fun K6 hK6 => ?_
 refine Zg fun K7 hK7 => ?_
 refine Zf [3] ?_
 refine Zc rfl (fun _ => Ze Zl) ?_
 refine Zh (hK7 _ _ ?_)
 refine Yp ?_
 refine Zba (fun (i : Nat) u => i ≤ l.length ∧ G w u) (fun i => [(0, True, Str l), (4, True, .int .u64 (valN 0 (l.take i) : Nat)), (5, True, .int .i64 i)]) (fun i => l.length - i) 0 ⟨by omega, g⟩ (Za rfl (Za rfl (Za rfl (Zd _)))) ?_
 rintro i u ⟨hi, g⟩
 refine Zg fun K8 hK8 => ?_
 refine Zg fun K9 hK9 => ?_
 refine Zf [3, 3, 3, 3] ?_
 refine Zc rfl (fun _ => Zi (Zb rfl)) ?_
 refine Zc rfl (fun _ => Zi (Zb rfl)) ?_
 refine Zc rfl (fun _ => Wz Yv (Zb rfl)) ?_
 refine Zc rfl (fun _ => Vh (Zb rfl) (Zb rfl)) ?_
 refine Zj [(0, _, _), (4, _, _), (5, _, _), (26, _, _)] (Za rfl (Za rfl (Za rfl (Za rfl (Zd _))))) ?_
 refine Zh (hK9 _ _ ?_)
 refine Zz (Zb rfl) (fun h2 => ?_) (fun h2 => ?_)
 ·replace h2 : i < l.length := by simp only [decide_eq_true_eq] at h2; omega
  obtain ⟨e, hb, hc1, hc2⟩ := valN_take h2 hd
  have hb2 : valN 0 (l.take i) < 10 ^ 18 := Nat.lt_of_lt_of_le hb (Nat.pow_le_pow_right (by decide) (by omega))
  have h18 : (10 : Nat) ^ 18 = 1000000000000000000 := by decide
  rw [h18] at hb2
  refine Yq (hK8 _ _ ?_)
  refine Yi [(0, _, _), (4, _, _), (5, _, _)] (Za rfl (Za rfl (Za rfl (Zd _)))) ?_
  refine Zg fun K10 hK10 => ?_
  refine Yp ?_
  refine Zg fun K11 hK11 => ?_
  refine Zg fun K12 hK12 => ?_
  refine Zf [3, 3, 3, 1, 3] ?_
  refine Zc rfl (fun _ => Zi (Zb rfl)) ?_
  refine Zc rfl (fun _ => Zi (Zb rfl)) ?_
  refine Zc rfl (fun _ => Uf Yv (Zb rfl) (Zb rfl) (fun _ => by omega)) ?_
  refine Xe rfl (Zu Zga Yl (Zk (Zb rfl) (Zn)) rfl) (Zmb _ _) (fun w32 g32 => ?_)
  have g := g.trans (g32)
  refine Zc rfl (fun _ => Ub (Zb rfl)) ?_
  refine Zj [(0, _, _), (4, _, _), (5, _, _), (33, _, _)] (Za rfl (Za rfl (Za rfl (Za rfl (Zd _))))) ?_
  refine Zh (hK12 _ _ ?_)
  refine Zz (Zb rfl) (fun h3 => ?_) (fun h3 => ?_)
  ·exfalso
   replace h3 : (!digitB (cAt l i)) = true := h3
   rw [digitB, decide_eq_true hc1, decide_eq_true hc2] at h3; cases h3
   done
  skip
  refine Yq (hK11 _ _ ?_)
  refine Yi [(0, _, _), (4, _, _), (5, _, _)] (Za rfl (Za rfl (Za rfl (Zd _)))) ?_
  refine Zf [3, 3, 3, 3, 3, 3, 3, 3, 3] ?_
  refine Zc rfl (fun _ => Zi (Zb rfl)) ?_
  refine Zc rfl (fun _ => rd_mulr (r := 10 * ((valN 0 (l.take i) : Nat) : Int)) Zl (Zb rfl) (fun hc => u64_id ⟨by omega, by omega⟩)) ?_
  refine Zc rfl (fun _ => Zi (Zb rfl)) ?_
  refine Zc rfl (fun _ => Zi (Zb rfl)) ?_
  refine Zc rfl (fun _ => Uf Yv (Zb rfl) (Zb rfl) (fun _ => by omega)) ?_
  refine Zc rfl (fun _ => Jab (r := cAt l i - 48) (Zb rfl) Zl (fun hc => u8_id ⟨by show 0 ≤ cAt l i - 48; omega, by show cAt l i - 48 ≤ 255; omega⟩)) ?_
  refine Zc rfl (fun _ => rd_convr (r := cAt l i - 48) ik_uint8 ik_uint64 (Zb rfl) (fun hc => u64_id ⟨by omega, by omega⟩)) ?_
  refine Zc rfl (fun _ => rd_addr (r := ((valN 0 (l.take (i + 1)) : Nat) : Int)) (Zb rfl) (Zb rfl) (fun hc => (by rw [e]; exact u64_id ⟨by omega, by omega⟩))) ?_
  refine Zc rfl (fun _ => Ze (Zb rfl)) ?_
  refine Zj [(0, _, _), (4, _, _), (5, _, _)] (Za rfl (Za rfl (Za rfl (Zd _)))) ?_
  refine Zh (hK10 _ _ ?_)
  refine Zf [3, 3, 3] ?_
  refine Zc rfl (fun _ => Zi (Zb rfl)) ?_
  refine Zc rfl (fun _ => Xq (Zb rfl) Zl (fun _ => by omega)) ?_
  refine Zc rfl (fun _ => Ze (Zb rfl)) ?_
  refine Zj [(0, _, _), (4, _, _), (5, _, _)] (Za rfl (Za rfl (Za rfl (Zd _)))) ?_
  refine Zh (fun a ha => ?_)
  exact ⟨i + 1, ha, ⟨h2, g⟩, by omega⟩
 have hi : i = l.length := by simp only [decide_eq_false_iff_not] at h2; omega
 subst hi
 refine Wa rfl (hK6 _ _ ?_)
 refine Yi [(4, _, _)] (Za rfl (Zd _)) ?_
 refine Zg fun K13 hK13 => ?_
 refine Zf [3, 3, 3, 3, 3, 3] ?_
 refine Zc rfl (fun _ => Zi (Zb rfl)) ?_
 refine Zc rfl (fun _ => rd_conv ik_uint64 ik_int (Zb rfl)) ?_
 refine Zc rfl (fun _ => Zi (Zb rfl)) ?_
 refine Zc rfl (fun _ => Vh (Zb rfl) Zl) ?_
 refine Zc rfl (fun _ => Ze (Zb rfl)) ?_
 refine Zc rfl (fun _ => Ze (Zb rfl)) ?_
 refine Zh (hK13 _ _ ?_)
 refine Yi [(2, _, _), (3, _, _), (4, _, _), (42, _, _), (43, _, _), (44, _, _), (45, _, _)] (Za rfl (Za rfl (Za rfl (Za rfl (Za rfl (Za rfl (Za rfl (Zd _)))))))) ?_
 refine Yf (Zsa (ts := [2, 3]) (vs := [_, _]) rfl rfl rfl ?_)
 refine ⟨⟨IntKind.i64.wrap ((valN 0 (l.take l.length) : Nat) : Int), ?_⟩, g⟩
 rw [hN]
 have e : l.take l.length = l := List.take_length
 rw [e]
end Go.Rk
