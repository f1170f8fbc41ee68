/- Trees whose numbers are the machine's. Conditions: none. -/
import Derived.Test.YtheifopckahdiaaDoorTree
namespace Go.Rk
open Go Go.RowKit
def rng (z : Int) : Prop := -9223372036854775808 ≤ z ∧ z ≤ 9223372036854775807
def okNd (t : Nd) : Prop := para (fun t l => rng t.kind ∧ rng t.num ∧ rng t.pos ∧ rng t.ty.kind ∧ rng t.ref ∧ rng t.up ∧ ∀ p ∈ l, p) t
theorem okNd_eq (t : Nd) : okNd t = (rng t.kind ∧ rng t.num ∧ rng t.pos ∧ rng t.ty.kind ∧ rng t.ref ∧ rng t.up ∧ ∀ p ∈ t.kids.map okNd, p) := para_eq _ t
theorem okNd_kid {t k : Nd} (h : okNd t) (hk : k ∈ t.kids) : okNd k := by
  rw [okNd_eq] at h; exact h.2.2.2.2.2.2 _ (List.mem_map_of_mem hk)
end Go.Rk
