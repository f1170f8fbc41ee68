/- Small laws on memory. Conditions: none. -/
import Derived.Test.YtheifopckahdiaaDoorRun
namespace Go.Rk
open Go Go.RowKit
section
variable {w w' : World} {base : Nat} {e : TypeId} {z : Nat} {v : Value} {m : Nat} {xs : List Value}
theorem own_sl (h : w.ownsRow base e z v m xs) : ∃ a c, v = .slice a m c ∧ m ≤ c := by
  rcases h.2 with ⟨h1, h2⟩ | ⟨g, cap, cur, h1, _, _, h4, _⟩
  · subst h2; exact ⟨none, 0, h1, Nat.le_refl _⟩
  · exact ⟨_, cap, h1, h4⟩
theorem own_at (h : w.ownsRow base e z v m xs) {b o c : Nat} {k : Nat} (hv : v = .slice (some ⟨b, o, none⟩) k c) : RowAt w b o xs ∧ o = 0 ∧ base ≤ b := by
  rcases h.2 with ⟨h1, h2⟩ | ⟨g, cap, cur, h1, h2, h3, h4, h5, h6, h7⟩
  · rw [h1] at hv; injection hv with hv; cases hv
  · rw [h1] at hv
    injection hv with hv _ _
    injection hv with hv
    injection hv with e1 e2 _
    subst e1
    subst e2
    refine ⟨fun j u hj => ?_, rfl, h2⟩
    have := h.cells (g := g) (by rw [h1]; rfl) j u hj
    rwa [Addr.add_lit] at this
theorem own_pos (h : w.ownsRow base e z v m xs) (hm : 0 < m) : ∃ b c, v = .slice (some ⟨b, 0, none⟩) m c ∧ m ≤ c ∧ RowAt w b 0 xs ∧ base ≤ b := by
  rcases h.2 with ⟨_, h2⟩ | ⟨g, cap, cur, h1, h2, h3, h4, h5, h6, h7⟩
  · omega
  · obtain ⟨q1, _, q3⟩ := own_at h h1
    exact ⟨g, cap, h1, h4, q1, q3⟩
theorem own_keep {row : Option Nat} (h : w.ownsRow base e z v m xs) (hg : w.grownBy w' row) (hne : v.ownBlock = none ∨ v.ownBlock ≠ row) : w'.ownsRow base e z v m xs := h.kept hg hne
theorem own_grow (h : w.ownsRow base e z v m xs) (hg : G w w') : w'.ownsRow base e z v m xs := h.kept (hg.only none) (by cases hv : v.ownBlock <;> simp)
theorem own_drew (h : w.ownsRow base e z v m xs) : w.drew.ownsRow base e z v m xs := h
theorem own_base {base' : Nat} (h : w.ownsRow base e z v m xs) (hb : base' ≤ base) : w.ownsRow base' e z v m xs := by
  refine ⟨h.1, ?_⟩
  rcases h.2 with h1 | ⟨g, cap, cur, h1, h2, h3⟩
  · exact .inl h1
  · exact .inr ⟨g, cap, cur, h1, by omega, h3⟩
theorem own_none (w : World) (base : Nat) (e : TypeId) (z : Nat) : w.ownsRow base e z (.slice none 0 0) 0 [] := World.ownsRow_nil w base e z
theorem below_g (h : G w w') (hb : base ≤ w.heap.size) : Below base w w' := Below.mono h hb
theorem below_only {a : World} {row : Option Nat} (h : Below base a w) (hg : w.grownBy w' row) (hb : base ≤ w.heap.size) (hr : ∀ k, row = some k → base ≤ k) : Below base a w' := h.grown hg hb hr
theorem below_to {a : World} (h : Below base a w) (hg : Below base w w') : Below base a w' := h.trans hg
theorem g_only {a : World} {row : Option Nat} (h : G a w) (hg : w.grownBy w' row) (hr : ∀ k, row = some k → a.heap.size ≤ k) : G a w' := Below.grown h hg h.size hr
theorem g_below {a : World} (h : Below base a w) (hb : base = a.heap.size) : G a w := by subst hb; exact h
theorem own_ne (h : w.ownsRow base e z v m xs) {b : Nat} (hb : w.heap.size ≤ b) : v.ownBlock ≠ some b := fun hv => by
  have := (h.lt b hv).2; omega
end
end Go.Rk
