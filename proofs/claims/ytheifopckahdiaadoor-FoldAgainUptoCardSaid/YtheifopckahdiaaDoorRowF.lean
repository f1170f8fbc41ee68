/- Slices of plain structs. Conditions: none. -/
import Derived.Test.YtheifopckahdiaaDoorTree
namespace Go.Rk
open Go Go.RowKit
set_option linter.unusedVariables false
section
variable {α : Type} {f : α → List Value} {z : Nat}
theorem flat_length (hf : ∀ a, (f a).length = z) : ∀ (l : List α), (l.flatMap f).length = l.length * z
  | [] => by simp
  | a :: l => by rw [List.flatMap_cons, List.length_append, hf, flat_length hf l, List.length_cons, Nat.succ_mul, Nat.add_comm]
theorem flat_at (hf : ∀ a, (f a).length = z) : ∀ (l : List α) (i : Nat) (h : i < l.length), ((l.flatMap f).drop (i * z)).take z = f l[i]
  | [], _, h => by cases h
  | a :: l, 0, _ => by
    rw [List.flatMap_cons, Nat.zero_mul, List.drop_zero, List.take_append_of_le_length (by rw [hf]; exact Nat.le_refl _), List.take_of_length_le (by rw [hf]; exact Nat.le_refl _)]; rfl
  | a :: l, i + 1, h => by
    have e : (((a :: l).flatMap f)).drop ((i + 1) * z) = (l.flatMap f).drop (i * z) := by
      rw [List.flatMap_cons, Nat.succ_mul, Nat.add_comm, ← List.drop_drop]
      congr 1
      rw [← hf a, List.drop_left]
    rw [e]; exact flat_at hf l i (by simpa using h)
/-- A slice whose elements are plain structs. -/
def RowF (f : α → List Value) (w : World) (l : List α) (v : Value) : Prop :=
  ∃ p c, v = .slice p l.length c ∧ l.length ≤ c ∧ (0 < l.length → ∃ b o, p = some ⟨b, o, none⟩ ∧ RowAt w b o (l.flatMap f))
theorem RowF.grow {w w' : World} {l : List α} {v : Value} (h : RowF f w l v) (g : G w w') : RowF f w' l v := by
  obtain ⟨p, c, rfl, hc, h⟩ := h
  refine ⟨p, c, rfl, hc, fun h0 => ?_⟩
  obtain ⟨b, o, rfl, hR⟩ := h h0
  exact ⟨b, o, rfl, hR.grow g⟩
theorem rowf_nil (w : World) : RowF f w [] (.slice none 0 0) := ⟨none, 0, rfl, Nat.le_refl _, fun h => absurd h (Nat.lt_irrefl 0)⟩
theorem rowf_own {w : World} {base : Nat} {e : TypeId} {v : Value} {m : Nat} {l : List α} (h : w.ownsRow base e z v m (l.flatMap f)) (hm : m = l.length) : RowF f w l v := by
  subst hm
  obtain ⟨a, c, rfl, hc⟩ := own_sl h
  refine ⟨a, c, rfl, hc, fun h0 => ?_⟩
  obtain ⟨b, c', hv, _, hR, _⟩ := own_pos h h0
  injection hv with hv _ _
  subst hv
  exact ⟨b, 0, rfl, hR⟩
theorem rowf_blk {w : World} {b : Nat} {e : TypeId} {l : List α} {c : Nat} {xs : List Value} (h : Blk w b e xs) (hx : xs = l.flatMap f) (hc : l.length ≤ c) : RowF f w l (.slice (some ⟨b, 0, none⟩) l.length c) := by
  subst hx
  exact ⟨_, c, rfl, hc, fun _ => ⟨b, 0, rfl, h.row⟩⟩
theorem rowf_at (hf : ∀ a, (f a).length = z) {w : World} {b o : Nat} {l : List α} (h : RowAt w b o (l.flatMap f)) {i : Nat} (hi : i < l.length) : RowAt w b (o + i * z) (f l[i]) := by
  have := h.part (i * z) z
  rwa [flat_at hf l i hi] at this
end
end Go.Rk
