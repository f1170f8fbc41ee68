/- The greater and the lesser of two integers. Conditions: none. -/
import Derived.Test.YtheifopckahdiaaDoorSym
namespace Go.Rk
open Go Go.RowKit
set_option linter.unusedVariables false
section
variable {P : Program} {n : Nat} {σ : List Ent} {c : Prop} {wb : World} {ty : TypeId}
theorem rd_max {x y : Operand} {k k' : IntKind} {a b : Int} {ts : Array TypeId} (h : Ev n σ c x (.int k a)) (h' : Ev n σ c y (.int k' b)) : Rd P n σ c wb (.call { callee := .builtin .max, args := #[x, y], argTypes := ts }) ty (.int k (if b > a then b else a)) := fun d pos after gd a ha hc w1 _ => by
  simp [execOp, resolve, invoke, builtin, h a ha hc, h' a ha hc, Builtin.max_, Builtin.max2]
theorem rd_min {x y : Operand} {k k' : IntKind} {a b : Int} {ts : Array TypeId} (h : Ev n σ c x (.int k a)) (h' : Ev n σ c y (.int k' b)) : Rd P n σ c wb (.call { callee := .builtin .min, args := #[x, y], argTypes := ts }) ty (.int k (if b < a then b else a)) := fun d pos after gd a ha hc w1 _ => by
  simp [execOp, resolve, invoke, builtin, h a ha hc, h' a ha hc, Builtin.min_, Builtin.min2]
end
theorem max_nat (a b : Nat) : (if (b : Int) > a then (b : Int) else a) = ((max a b : Nat) : Int) := by split <;> omega
theorem min_nat (a b : Nat) : (if (b : Int) < a then (b : Int) else a) = ((min a b : Nat) : Int) := by split <;> omega
end Go.Rk
