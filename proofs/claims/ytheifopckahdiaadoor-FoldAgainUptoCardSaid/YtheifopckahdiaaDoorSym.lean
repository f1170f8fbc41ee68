/- The engine's second part: frames known in part, and a rule for each operation. Conditions: none. -/
import Derived.Test.YtheifopckahdiaaDoorEng
import Derived.WalkKit
import Derived.WalkSpells
import Derived.WalkLawsBesides
namespace Go.Rk
open Go Go.RowKit
set_option linter.unusedVariables false

abbrev Ent := Nat × Prop × Value

def look : List Ent → Nat → Option (Prop × Value)
  | [], _ => none
  | (k, c, v) :: r, t => bif Nat.beq k t then some (c, v) else look r t

/-- What is known of a frame. -/
def Kn (n : Nat) (σ : List Ent) (a : Act) : Prop :=
  a.tmps.size = n ∧ a.defers = [] ∧ ∀ t c v, look σ t = some (c, v) → (c → a.tmps[t]? = some v) ∧ (¬ c → a.tmps[t]? = some undef)

def Ev (n : Nat) (σ : List Ent) (c : Prop) (x : Operand) (v : Value) : Prop := ∀ a, Kn n σ a → c → a.eval x = v

theorem eval_const (a : Act) (v : Value) : a.eval (.const v) = v := rfl
theorem Kn.at_ {n : Nat} {σ : List Ent} {a : Act} (h : Kn n σ a) {t : Nat} {c : Prop} {v : Value} (hl : look σ t = some (c, v)) (hc : c) : a.tmps[t]? = some v := (h.2.2 t c v hl).1 hc

section
variable {n : Nat} {σ : List Ent} {c : Prop} {v : Value}
theorem ev_t {t : Nat} (h : look σ t = some (True, v)) : Ev n σ c (.tmp t) v := fun a ha _ => by
  simp [Act.eval, ha.at_ h trivial]
theorem ev_u {t : Nat} {c' : Prop} (h : look σ t = some (c', v)) (hc : c → c') : Ev n σ c (.tmp t) v := fun a ha h1 => by
  simp [Act.eval, ha.at_ h (hc h1)]
theorem ev_c : Ev n σ c (.const v) v := fun _ _ _ => rfl
theorem ev_g {g : Nat} : Ev n σ c (.global g) (.pointer (some ⟨g, 0, none⟩)) := fun _ _ _ => rfl
theorem ev_f {f : Nat} : Ev n σ c (.func f) (.func (.func f) #[] #[]) := fun _ _ _ => rfl
theorem Ev.to {x : Operand} {v' : Value} (h : Ev n σ c x v) (e : c → v = v') : Ev n σ c x v' := fun a ha hc => (h a ha hc).trans (e hc)
end

theorem Kn.put {n : Nat} {σ : List Ent} {a : Act} (h : Kn n σ a) {d : Nat} (hd : Nat.blt d n = true) {c : Prop} {v v' : Value} (h1 : c → v' = v) (h2 : ¬ c → v' = undef) :
    Kn n ((d, c, v) :: σ) (a.put (some d) v') := by
  have hd' : d < n := Nat.le_of_ble_eq_true hd
  refine ⟨by simp [Act.put, h.1], h.2.1, fun t c' u hl => ?_⟩
  unfold look at hl
  by_cases ht : d = t
  · subst ht
    simp only [Nat.beq_refl, cond_true] at hl
    injection hl with hl
    injection hl with e1 e2
    subst e1
    subst e2
    have hs : d < a.tmps.size := by rw [h.1]; exact hd'
    simp only [Act.put]
    rw [Array.getElem?_setIfInBounds_self_of_lt hs]
    exact ⟨fun hc => by rw [h1 hc], fun hc => by rw [h2 hc]⟩
  · have : Nat.beq d t = false := by
      cases hb : Nat.beq d t with
      | false => rfl
      | true => exact absurd (Nat.eq_of_beq_eq_true hb) ht
    rw [this] at hl
    simp only [cond_false] at hl
    simp only [Act.put]
    rw [Array.getElem?_setIfInBounds_ne ht]
    exact h.2.2 t c' u hl

/-- A part of what is known. -/
def Sub (τ σ : List Ent) : Prop := ∀ t c v, look τ t = some (c, v) → look σ t = some (c, v)
theorem sub_nil (σ : List Ent) : Sub [] σ := fun _ _ _ h => by simp [look] at h
theorem sub_cons {t : Nat} {c : Prop} {v : Value} {τ σ : List Ent} (h : look σ t = some (c, v)) (k : Sub τ σ) : Sub ((t, c, v) :: τ) σ := fun u c' v' hl => by
  unfold look at hl
  cases hb : Nat.beq t u with
  | true =>
    rw [hb] at hl
    obtain rfl := Nat.eq_of_beq_eq_true hb
    simp only [cond_true] at hl
    injection hl with hl
    injection hl with e1 e2
    subst e1
    subst e2
    exact h
  | false => rw [hb] at hl; exact k u c' v' hl
theorem Kn.sub {n : Nat} {τ σ : List Ent} {a : Act} (h : Kn n σ a) (k : Sub τ σ) : Kn n τ a := ⟨h.1, h.2.1, fun t c v hl => h.2.2 t c v (k t c v hl)⟩

/-! ## Operations that read -/
/-- The operation yields v in every world grown from wb. -/
def Rd (P : Program) (n : Nat) (σ : List Ent) (c : Prop) (wb : World) (op : Op) (ty : TypeId) (v : Value) : Prop :=
  ∀ (d : Option Tmp) (pos : String) (after : Array Edge) (g : Option (Nat × Bool)) (a : Act), Kn n σ a → c → ∀ w1, G wb w1 → (execOp a.eval ⟨d, op, ty, pos, after, g⟩).run P w1 = .ok (.value v) w1

def tyOne (P : Program) (t : TypeId) : Bool := match P.underlying t with | some (.struct _) => false | some (.array _ _) => false | some _ => true | none => false
def tyAgg (P : Program) (t : TypeId) : Option Nat := match P.underlying t, P.info? t with | some (.struct _), some i => some i.size | some (.array _ _), some i => some i.size | _, _ => none
def tySize (P : Program) (t : TypeId) : Option Nat := (P.info? t).map (·.size)
def tyElem (P : Program) (t : TypeId) : Option (TypeId × Nat × Nat) := match P.underlying t with | some (.slice e) => (P.info? e).map fun i => (e, i.size, i.bytes) | _ => none
def tyStr (P : Program) (t : TypeId) : Bool := match P.underlying t with | some .string => true | _ => false
def fieldOff (P : Program) (s : TypeId) (k : Nat) : Option Nat := match P.underlying s with
  | some (.struct fs) => match fs[k]? with
    | some f => match P.info? f.type with
      | some i => if i.size = 0 then none else some f.offset
      | none => none
    | none => none
  | _ => none
/-- A field of a struct that is a value: its offset, and its size if it is a struct or an array. -/
def fieldIn (P : Program) (s : TypeId) (k : Nat) : Option (Nat × Option Nat) := match P.underlying s with
  | some (.struct fs) => match fs[k]? with
    | some f => if tyOne P f.type = true then some (f.offset, none) else (tyAgg P f.type).map fun z => (f.offset, some z)
    | none => none
  | _ => none

/-- Cells in a row. -/
def RowAt (w : World) (b o : Nat) (l : List Value) : Prop := ∀ j v, l[j]? = some v → w.cell? ⟨b, o + j, none⟩ = some v
theorem cell_grow {w w1 : World} (h : G w w1) {a : Addr} {v : Value} (hc : w.cell? a = some v) : w1.cell? a = some v := (Below.cell h (World.block_lt_of_cell? w a hc)).trans hc
theorem RowAt.grow {w w1 : World} {b o : Nat} {l : List Value} (h : RowAt w b o l) (hg : G w w1) : RowAt w1 b o l := fun j v hj => cell_grow hg (h j v hj)
theorem RowAt.part {w : World} {b o : Nat} {l : List Value} (h : RowAt w b o l) (i m : Nat) : RowAt w b (o + i) ((l.drop i).take m) := fun j v hj => by
  rw [List.getElem?_take] at hj
  split at hj
  · rw [List.getElem?_drop] at hj
    have := h (i + j) v hj
    rwa [← Nat.add_assoc] at this
  · cases hj
theorem RowAt.one {w : World} {b o : Nat} {l : List Value} (h : RowAt w b o l) {i : Nat} {v : Value} (hi : l[i]? = some v) : w.cell? ⟨b, o + i, none⟩ = some v := h i v hi

section
variable {P : Program} {n : Nat} {σ : List Ent} {c : Prop} {wb : World} {ty : TypeId}

theorem rd_move {x : Operand} {v : Value} (h : Ev n σ c x v) : Rd P n σ c wb (.move x) ty v := fun d pos after g a ha hc w1 _ => by
  simp [execOp, h a ha hc]
theorem rd_assign {x : Operand} {v : Value} (h : Ev n σ c x v) : Rd P n σ c wb (.assign x) ty v := fun d pos after g a ha hc w1 _ => by
  simp [execOp, h a ha hc]
theorem rd_nil {x : Operand} {b : Addr} (h : Ev n σ c x (.pointer (some b))) : Rd P n σ c wb (.nilCheck x) ty (.pointer (some b)) := fun d pos after g a ha hc w1 _ => by
  simp [execOp, h a ha hc]
theorem rd_nilf {x : Operand} {f : Nat} {l m : Array Value} (h : Ev n σ c x (.func (.func f) l m)) : Rd P n σ c wb (.nilCheck x) ty (.func (.func f) l m) := fun d pos after g a ha hc w1 _ => by
  simp [execOp, h a ha hc]
theorem rd_pick_and {x y : Operand} {g y' : Bool} (h : Ev n σ c x (.bool g)) (h1 : Ev n σ (c ∧ g = true) y (.bool y')) : Rd P n σ c wb (.pick x y (.const (.bool false))) ty (.bool (g && y')) := fun d pos after gd a ha hc w1 _ => by
  cases g with
  | false => simp [execOp, h a ha hc, asBool, eval_const]
  | true => simp [execOp, h a ha hc, asBool, h1 a ha ⟨hc, rfl⟩]
theorem rd_pick_or {x y : Operand} {g y' : Bool} (h : Ev n σ c x (.bool g)) (h1 : Ev n σ (c ∧ g = false) y (.bool y')) : Rd P n σ c wb (.pick x (.const (.bool true)) y) ty (.bool (g || y')) := fun d pos after gd a ha hc w1 _ => by
  cases g with
  | true => simp [execOp, h a ha hc, asBool, eval_const]
  | false => simp [execOp, h a ha hc, asBool, h1 a ha ⟨hc, rfl⟩]

theorem rd_field {s k off b o : Nat} {x : Operand} (hf : fieldOff P s k = some off) (h : Ev n σ c x (.pointer (some ⟨b, o, none⟩))) :
    Rd P n σ c wb (.fieldAddr s x k) ty (.pointer (some ⟨b, o + off, none⟩)) := fun d pos after gd a ha hc w1 _ => by
  unfold fieldOff at hf
  split at hf
  · rename_i fs hs
    split at hf
    · rename_i f hk
      split at hf
      · rename_i i hi
        split at hf
        · cases hf
        · rename_i hz
          injection hf with hf
          subst hf
          simp [execOp, h a ha hc, Instr.fieldAt, run_underlying hs, hk, Instr.sureAddr, fieldPlace, sizeOf, typeInfo, hi, hz, Addr.add_lit]
      · cases hf
    · cases hf
  · cases hf

theorem loadVar_one {t : TypeId} (ht : tyOne P t = true) {w : World} {ad : Addr} {v : Value} (hc : w.cell? ad = some v) : (loadVar t ad).run P w = .ok v w := by
  unfold tyOne at ht
  split at ht <;> try (cases ht; done)
  rename_i d hd1 hd2 hd
  have : (isAgg t).run P w = .ok false w := by
    simp only [isAgg, Sem.run_bind, run_underlying hd, Result.andThen_ok]
    rfl
  simp [loadVar, this, hc]

theorem loadVar_agg {t : TypeId} {z : Nat} (ht : tyAgg P t = some z) {w : World} {b o : Nat} {l : List Value} (hl : l.length = z) (hc : RowAt w b o l) :
    (loadVar t ⟨b, o, none⟩).run P w = .ok (.agg l.toArray) w := by
  have : (isAgg t).run P w = .ok true w ∧ (sizeOf t).run P w = .ok z w := by
    unfold tyAgg at ht
    split at ht
    · rename_i fs i hs hi
      injection ht with ht
      constructor
      · simp only [isAgg, Sem.run_bind, run_underlying hs, Result.andThen_ok]; rfl
      · simp [sizeOf, typeInfo, hi, ht]
    · rename_i fs m i hs hi
      injection ht with ht
      constructor
      · simp only [isAgg, Sem.run_bind, run_underlying hs, Result.andThen_ok]; rfl
      · simp [sizeOf, typeInfo, hi, ht]
    · cases ht
  have hload := run_loadCells_list (P := P) (w := w) ⟨b, o, none⟩ l (fun j v hj => by rw [Addr.add_lit]; exact hc j v hj)
  rw [hl] at hload
  simp [loadVar, this.1, this.2, hload]

theorem rd_load {t b o : Nat} {x : Operand} {v : Value} (ht : tyOne P t = true) (h : Ev n σ c x (.pointer (some ⟨b, o, none⟩))) (hc : c → wb.cell? ⟨b, o, none⟩ = some v) :
    Rd P n σ c wb (.load t x) ty v := fun d pos after gd a ha hc' w1 hg => by
  simp [execOp, h a ha hc', Instr.loadAt, Instr.sureAddr, loadVar_one ht (cell_grow hg (hc hc'))]
theorem rd_loads {t b o z : Nat} {x : Operand} {l : List Value} (ht : tyAgg P t = some z) (h : Ev n σ c x (.pointer (some ⟨b, o, none⟩))) (hl : l.length = z) (hc : c → RowAt wb b o l) :
    Rd P n σ c wb (.load t x) ty (.agg l.toArray) := fun d pos after gd a ha hc' w1 hg => by
  simp [execOp, h a ha hc', Instr.loadAt, Instr.sureAddr, loadVar_agg ht hl ((hc hc').grow hg)]

theorem rd_part1 {s k off : Nat} {x : Operand} {cs : Array Value} {v : Value} (hf : fieldIn P s k = some (off, none)) (h : Ev n σ c x (.agg cs)) (hv : cs[off]? = some v) :
    Rd P n σ c wb (.field s x k) ty v := fun d pos after gd a ha hc w1 _ => by
  unfold fieldIn at hf
  split at hf
  · rename_i fs hs
    split at hf
    · rename_i f hk
      split at hf
      · rename_i hone
        simp only [Option.some.injEq, Prod.mk.injEq, and_true] at hf
        subst hf
        have : (isAgg f.type).run P w1 = .ok false w1 := by
          unfold tyOne at hone
          split at hone <;> try (cases hone; done)
          rename_i d hd1 hd2 hd
          simp only [isAgg, Sem.run_bind, run_underlying hd, Result.andThen_ok]
          rfl
        simp [execOp, h a ha hc, Instr.field, run_underlying hs, hk, part, asAgg, this, hv]
      · cases hq : tyAgg P f.type <;> simp [hq] at hf
    · cases hf
  · cases hf
theorem rd_partN {s k off z : Nat} {x : Operand} {cs : Array Value} {l : List Value} (hf : fieldIn P s k = some (off, some z)) (h : Ev n σ c x (.agg cs)) (hv : (cs.extract off (off + z)) = l.toArray) :
    Rd P n σ c wb (.field s x k) ty (.agg l.toArray) := fun d pos after gd a ha hc w1 _ => by
  unfold fieldIn at hf
  split at hf
  · rename_i fs hs
    split at hf
    · rename_i f hk
      split at hf
      · simp at hf
      · cases hq : tyAgg P f.type with
        | none => simp [hq] at hf
        | some z' =>
          simp only [hq, Option.map_some, Option.some.injEq, Prod.mk.injEq] at hf
          obtain ⟨rfl, rfl⟩ := hf
          have : (isAgg f.type).run P w1 = .ok true w1 ∧ (sizeOf f.type).run P w1 = .ok z' w1 := by
            unfold tyAgg at hq
            split at hq
            · rename_i fs i hs hi
              injection hq with ht
              constructor
              · simp only [isAgg, Sem.run_bind, run_underlying hs, Result.andThen_ok]; rfl
              · simp [sizeOf, typeInfo, hi, ht]
            · rename_i fs m i hs hi
              injection hq with ht
              constructor
              · simp only [isAgg, Sem.run_bind, run_underlying hs, Result.andThen_ok]; rfl
              · simp [sizeOf, typeInfo, hi, ht]
            · cases hq
          simp [execOp, h a ha hc, Instr.field, run_underlying hs, hk, part, asAgg, this.1, this.2, hv]
    · cases hf
  · cases hf
theorem rd_extract {x : Operand} {i : Nat} {vs : Array Value} {v : Value} (h : Ev n σ c x (.tuple vs)) (hv : vs[i]? = some v) : Rd P n σ c wb (.extract x i) ty v := fun d pos after gd a ha hc w1 _ => by
  simp [execOp, h a ha hc, Instr.extract, hv]

/-! integers -/
theorem i64_id {x : Int} (h : -9223372036854775808 ≤ x ∧ x ≤ 9223372036854775807) : IntKind.i64.wrap x = x := by
  rw [IntKind.wrap_i64]; omega
theorem rd_arith {op : BinOp} {t u : TypeId} {x y : Operand} {k : IntKind} {i j r : Int} (h : Ev n σ c x (.int k i)) (h' : Ev n σ c y (.int k j))
    (hr : c → Op.intArith op k i j = pure (.int k r)) (ho : op = .add ∨ op = .sub ∨ op = .mul) : Rd P n σ c wb (.binOp op t x y u) ty (.int k r) := fun d pos after gd a ha hc w1 _ => by
  rcases ho with rfl | rfl | rfl <;> simp [execOp, h a ha hc, h' a ha hc, eqGuard_at_int, binOp, hr hc]
theorem rd_add {t u : TypeId} {x y : Operand} {i j : Int} (h : Ev n σ c x (.int .i64 i)) (h' : Ev n σ c y (.int .i64 j)) (hr : c → -9223372036854775808 ≤ i + j ∧ i + j ≤ 9223372036854775807) :
    Rd P n σ c wb (.binOp .add t x y u) ty (.int .i64 (i + j)) := rd_arith h h' (fun hc => by simp [Op.intArith, i64_id (hr hc)]) (.inl rfl)
theorem rd_sub {t u : TypeId} {x y : Operand} {i j : Int} (h : Ev n σ c x (.int .i64 i)) (h' : Ev n σ c y (.int .i64 j)) (hr : c → -9223372036854775808 ≤ i - j ∧ i - j ≤ 9223372036854775807) :
    Rd P n σ c wb (.binOp .sub t x y u) ty (.int .i64 (i - j)) := rd_arith h h' (fun hc => by simp [Op.intArith, i64_id (hr hc)]) (.inr (.inl rfl))
theorem rd_mul {t u : TypeId} {x y : Operand} {i j : Int} (h : Ev n σ c x (.int .i64 i)) (h' : Ev n σ c y (.int .i64 j)) (hr : c → -9223372036854775808 ≤ i * j ∧ i * j ≤ 9223372036854775807) :
    Rd P n σ c wb (.binOp .mul t x y u) ty (.int .i64 (i * j)) := rd_arith h h' (fun hc => by simp [Op.intArith, i64_id (hr hc)]) (.inr (.inr rfl))
theorem rd_addw {t u : TypeId} {x y : Operand} {k : IntKind} {i j : Int} (h : Ev n σ c x (.int k i)) (h' : Ev n σ c y (.int k j)) :
    Rd P n σ c wb (.binOp .add t x y u) ty (.int k (k.wrap (i + j))) := rd_arith h h' (fun hc => by simp [Op.intArith]) (.inl rfl)
theorem rd_subw {t u : TypeId} {x y : Operand} {k : IntKind} {i j : Int} (h : Ev n σ c x (.int k i)) (h' : Ev n σ c y (.int k j)) :
    Rd P n σ c wb (.binOp .sub t x y u) ty (.int k (k.wrap (i - j))) := rd_arith h h' (fun hc => by simp [Op.intArith]) (.inr (.inl rfl))
theorem rd_mulw {t u : TypeId} {x y : Operand} {k : IntKind} {i j : Int} (h : Ev n σ c x (.int k i)) (h' : Ev n σ c y (.int k j)) :
    Rd P n σ c wb (.binOp .mul t x y u) ty (.int k (k.wrap (i * j))) := rd_arith h h' (fun hc => by simp [Op.intArith]) (.inr (.inr rfl))
theorem rd_quow {t u : TypeId} {x y : Operand} {k : IntKind} {i j : Int} (h : Ev n σ c x (.int k i)) (h' : Ev n σ c y (.int k j)) (hz : c → j ≠ 0) :
    Rd P n σ c wb (.binOp .quo t x y u) ty (.int k (k.wrap (i.tdiv j))) := fun d pos after gd a ha hc w1 _ => by
  simp [execOp, h a ha hc, h' a ha hc, eqGuard_at_int, binOp, Op.intDiv, hz hc]
theorem rd_remw {t u : TypeId} {x y : Operand} {k : IntKind} {i j : Int} (h : Ev n σ c x (.int k i)) (h' : Ev n σ c y (.int k j)) (hz : c → j ≠ 0) :
    Rd P n σ c wb (.binOp .rem t x y u) ty (.int k (i.tmod j)) := fun d pos after gd a ha hc w1 _ => by
  simp [execOp, h a ha hc, h' a ha hc, eqGuard_at_int, binOp, Op.intDiv, hz hc]
theorem rd_eq {t u : TypeId} {x y : Operand} {k : IntKind} {i j : Int} (h : Ev n σ c x (.int k i)) (h' : Ev n σ c y (.int k j)) : Rd P n σ c wb (.binOp .eql t x y u) ty (.bool (decide (i = j))) := fun d pos after gd a ha hc w1 _ => by
  simp [execOp, h a ha hc, h' a ha hc, eqGuard_at_int, binOp, Op.intCmp]; rfl
theorem rd_ne {t u : TypeId} {x y : Operand} {k : IntKind} {i j : Int} (h : Ev n σ c x (.int k i)) (h' : Ev n σ c y (.int k j)) : Rd P n σ c wb (.binOp .neq t x y u) ty (.bool (!decide (i = j))) := fun d pos after gd a ha hc w1 _ => by
  simp [execOp, h a ha hc, h' a ha hc, eqGuard_at_int, binOp, Op.intCmp]; rfl
theorem rd_lt {t u : TypeId} {x y : Operand} {k : IntKind} {i j : Int} (h : Ev n σ c x (.int k i)) (h' : Ev n σ c y (.int k j)) : Rd P n σ c wb (.binOp .lss t x y u) ty (.bool (decide (i < j))) := fun d pos after gd a ha hc w1 _ => by
  simp [execOp, h a ha hc, h' a ha hc, eqGuard_at_int, binOp, Op.intCmp]
theorem rd_le {t u : TypeId} {x y : Operand} {k : IntKind} {i j : Int} (h : Ev n σ c x (.int k i)) (h' : Ev n σ c y (.int k j)) : Rd P n σ c wb (.binOp .leq t x y u) ty (.bool (decide (i ≤ j))) := fun d pos after gd a ha hc w1 _ => by
  simp [execOp, h a ha hc, h' a ha hc, eqGuard_at_int, binOp, Op.intCmp]
theorem rd_gt {t u : TypeId} {x y : Operand} {k : IntKind} {i j : Int} (h : Ev n σ c x (.int k i)) (h' : Ev n σ c y (.int k j)) : Rd P n σ c wb (.binOp .gtr t x y u) ty (.bool (decide (j < i))) := fun d pos after gd a ha hc w1 _ => by
  simp [execOp, h a ha hc, h' a ha hc, eqGuard_at_int, binOp, Op.intCmp]
theorem rd_ge {t u : TypeId} {x y : Operand} {k : IntKind} {i j : Int} (h : Ev n σ c x (.int k i)) (h' : Ev n σ c y (.int k j)) : Rd P n σ c wb (.binOp .geq t x y u) ty (.bool (decide (j ≤ i))) := fun d pos after gd a ha hc w1 _ => by
  simp [execOp, h a ha hc, h' a ha hc, eqGuard_at_int, binOp, Op.intCmp]
theorem rd_beq {t u : TypeId} {x y : Operand} {i j : Bool} (ht : P.underlying t = some .bool) (h : Ev n σ c x (.bool i)) (h' : Ev n σ c y (.bool j)) : Rd P n σ c wb (.binOp .eql t x y u) ty (.bool (i == j)) := fun d pos after gd a ha hc w1 _ => by
  simp [execOp, h a ha hc, h' a ha hc, eqGuard_at_bool, binOp, Op.equal, Op.maxDepth, run_equalIn_bool' w1 9999 t i j ht]
theorem rd_bne {t u : TypeId} {x y : Operand} {i j : Bool} (ht : P.underlying t = some .bool) (h : Ev n σ c x (.bool i)) (h' : Ev n σ c y (.bool j)) : Rd P n σ c wb (.binOp .neq t x y u) ty (.bool (i != j)) := fun d pos after gd a ha hc w1 _ => by
  simp [execOp, h a ha hc, h' a ha hc, eqGuard_at_bool, binOp, Op.equal, Op.maxDepth, run_equalIn_bool' w1 9999 t i j ht]; cases i <;> cases j <;> rfl
theorem rd_not {t : TypeId} {x : Operand} {i : Bool} (h : Ev n σ c x (.bool i)) : Rd P n σ c wb (.unOp .not t x) ty (.bool (!i)) := fun d pos after gd a ha hc w1 _ => by
  simp [execOp, h a ha hc, Op.unary]
theorem rd_negw {t : TypeId} {x : Operand} {k : IntKind} {i : Int} (h : Ev n σ c x (.int k i)) : Rd P n σ c wb (.unOp .neg t x) ty (.int k (k.wrap (0 - i))) := fun d pos after gd a ha hc w1 _ => by
  simp [execOp, h a ha hc, Op.unary, Op.intArith]

/-! strings -/
@[reducible] def Str (l : List UInt8) : Value := .string ⟨l.toArray⟩
theorem rd_seq {t u : TypeId} {x y : Operand} {i j : List UInt8} (h : Ev n σ c x (Str i)) (h' : Ev n σ c y (Str j)) : Rd P n σ c wb (.binOp .eql t x y u) ty (.bool (decide (i = j))) := fun d pos after gd a ha hc w1 _ => by
  simp [execOp, h a ha hc, h' a ha hc, eqGuard_at_string, binOp, Op.stringOp]; rw [Bool.eq_iff_iff]; simp
theorem rd_sne {t u : TypeId} {x y : Operand} {i j : List UInt8} (h : Ev n σ c x (Str i)) (h' : Ev n σ c y (Str j)) : Rd P n σ c wb (.binOp .neq t x y u) ty (.bool (!decide (i = j))) := fun d pos after gd a ha hc w1 _ => by
  simp [execOp, h a ha hc, h' a ha hc, eqGuard_at_string, binOp, Op.stringOp]; rw [Bool.eq_iff_iff]; simp
theorem rd_scat {t u : TypeId} {x y : Operand} {i j : List UInt8} (h : Ev n σ c x (Str i)) (h' : Ev n σ c y (Str j)) (hl : c → i.length + j.length ≤ 9223372036854775807) : Rd P n σ c wb (.binOp .add t x y u) ty (Str (i ++ j)) := fun d pos after gd a ha hc w1 _ => by
  have hs := run_string_add_sum (P := P) w1 ⟨i.toArray⟩ ⟨j.toArray⟩ (by have := hl hc; simpa [ByteArray.size] using this)
  rw [ByteArray.mk_append_mk] at hs
  simp [execOp, h a ha hc, h' a ha hc, eqGuard_at_string, binOp, hs]
theorem underlying_str {t : TypeId} (h : tyStr P t = true) : P.underlying t = some .string := by
  unfold tyStr at h; split at h
  · assumption
  · cases h
theorem rd_slen {t : TypeId} {x : Operand} {i : List UInt8} (ht : tyStr P t = true) (h : Ev n σ c x (Str i)) : Rd P n σ c wb (.call { callee := .builtin .len, args := #[x], argTypes := #[t] }) ty (.int .i64 i.length) := fun d pos after gd a ha hc w1 _ => by
  have hr := run_len_string (P := P) w1 t ty ⟨i.toArray⟩ (underlying_str ht)
  simp [execOp, resolve, invoke, builtin, h a ha hc, hr, ByteArray.size, goInt]
theorem rd_sidx {t : TypeId} {x y : Operand} {l : List UInt8} {k : IntKind} {i : Int} (ht : tyStr P t = true) (h : Ev n σ c x (Str l)) (h' : Ev n σ c y (.int k i)) (hi : c → 0 ≤ i ∧ i < l.length) :
    Rd P n σ c wb (.index t x y) ty (.int .u8 (l.getD i.toNat 0).toNat) := fun d pos after gd a ha hc w1 _ => by
  obtain ⟨h0, h1⟩ := hi hc
  have hlt : i.toNat < l.length := by omega
  have hg : (⟨l.toArray⟩ : ByteArray)[i.toNat]? = some l[i.toNat] := by
    rw [ByteArray.getElem?_lt' _ _ (by simpa [ByteArray.size] using hlt)]; rfl
  simp [execOp, h a ha hc, h' a ha hc, Instr.index, asIntOf, run_underlying (underlying_str ht), h0, hg, List.getD_eq_getElem?_getD, hlt]
theorem rd_ssl {t : TypeId} {x y z : Operand} {l : List UInt8} {k k' : IntKind} {i j : Int} (ht : tyStr P t = true) (h : Ev n σ c x (Str l)) (h' : Ev n σ c y (.int k i)) (h'' : Ev n σ c z (.int k' j)) (hi : c → 0 ≤ i ∧ i ≤ j ∧ j ≤ l.length) :
    Rd P n σ c wb (.slice t x (some y) (some z) none) ty (Str ((l.drop i.toNat).take (j.toNat - i.toNat))) := fun d pos after gd a ha hc w1 _ => by
  obtain ⟨h0, h1, h2⟩ := hi hc
  have e1 : (0 ≤ j ∧ j ≤ ((⟨l.toArray⟩ : ByteArray).size : Int)) := by simp [ByteArray.size]; omega
  have e2 : (0 ≤ i ∧ i ≤ (j.toNat : Int)) := by omega
  simp only [execOp, h a ha hc, h' a ha hc, h'' a ha hc, Instr.sliceAt, Option.map_some, Option.map_none, Sem.run_bind, run_underlying (underlying_str ht), Result.andThen_ok]
  simp [Instr.slice, run_underlying (underlying_str ht), Instr.sliceBounds, Instr.sliceBound, asIntOf, e1, e2, ByteArray.extract_mk]
  intro hh
  omega
theorem rd_ssl_from {t : TypeId} {x y : Operand} {l : List UInt8} {k : IntKind} {i : Int} (ht : tyStr P t = true) (h : Ev n σ c x (Str l)) (h' : Ev n σ c y (.int k i)) (hi : c → 0 ≤ i ∧ i ≤ l.length) :
    Rd P n σ c wb (.slice t x (some y) none none) ty (Str (l.drop i.toNat)) := fun d pos after gd a ha hc w1 _ => by
  obtain ⟨h0, h2⟩ := hi hc
  have e2 : (0 ≤ i ∧ i ≤ ((⟨l.toArray⟩ : ByteArray).size : Int)) := by simp [ByteArray.size]; omega
  have e3 : (l.drop i.toNat).take ((⟨l.toArray⟩ : ByteArray).size - i.toNat) = l.drop i.toNat := by
    rw [List.take_of_length_le]; simp [ByteArray.size]
  simp only [execOp, h a ha hc, h' a ha hc, Instr.sliceAt, Option.map_some, Option.map_none, Sem.run_bind, run_underlying (underlying_str ht), Result.andThen_ok]
  simp [Instr.slice, run_underlying (underlying_str ht), Instr.sliceBounds, Instr.sliceBound, asIntOf, e2, ByteArray.extract_mk, e3]
theorem rd_ssl_to {t : TypeId} {x z : Operand} {l : List UInt8} {k' : IntKind} {j : Int} (ht : tyStr P t = true) (h : Ev n σ c x (Str l)) (h'' : Ev n σ c z (.int k' j)) (hi : c → 0 ≤ j ∧ j ≤ l.length) :
    Rd P n σ c wb (.slice t x none (some z) none) ty (Str (l.take j.toNat)) := fun d pos after gd a ha hc w1 _ => by
  obtain ⟨h1, h2⟩ := hi hc
  have e1 : (0 ≤ j ∧ j ≤ ((⟨l.toArray⟩ : ByteArray).size : Int)) := by simp [ByteArray.size]; omega
  simp only [execOp, h a ha hc, h'' a ha hc, Instr.sliceAt, Option.map_some, Option.map_none, Sem.run_bind, run_underlying (underlying_str ht), Result.andThen_ok]
  simp [Instr.slice, run_underlying (underlying_str ht), Instr.sliceBounds, Instr.sliceBound, asIntOf, e1, ByteArray.extract_mk]

/-! slices -/
theorem underlying_sl {t e z by_ : Nat} (h : tyElem P t = some (e, z, by_)) : P.underlying t = some (.slice e) ∧ ∃ i, P.info? e = some i ∧ i.size = z ∧ i.bytes = by_ := by
  unfold tyElem at h
  split at h
  · rename_i e' he
    cases hi : P.info? e' with
    | none => simp [hi] at h
    | some i =>
      simp only [hi, Option.map_some, Option.some.injEq, Prod.mk.injEq] at h
      obtain ⟨rfl, h1, h2⟩ := h
      exact ⟨he, i, hi, h1, h2⟩
  · cases h
theorem rd_len {t e z by_ : Nat} {x : Operand} {b : Option Addr} {m q : Nat} (ht : tyElem P t = some (e, z, by_)) (h : Ev n σ c x (.slice b m q)) : Rd P n σ c wb (.call { callee := .builtin .len, args := #[x], argTypes := #[t] }) ty (.int .i64 m) := fun d pos after gd a ha hc w1 _ => by
  obtain ⟨hu, i, hi, hz, _⟩ := underlying_sl ht
  have he : P.underlying t = some (.slice (P.elem t)) := by rw [hu]; simp [Program.elem, hu]
  have hr := run_len_slice (P := P) w1 t ty b m q he
  simp [execOp, resolve, invoke, builtin, h a ha hc, hr, goInt]
theorem rd_idx {t e z by_ : Nat} {x y : Operand} {b o m q : Nat} {k : IntKind} {i : Int} (ht : tyElem P t = some (e, z, by_)) (h : Ev n σ c x (.slice (some ⟨b, o, none⟩) m q)) (h' : Ev n σ c y (.int k i)) (hi : c → 0 ≤ i ∧ i < m) :
    Rd P n σ c wb (.indexAddr t x y) ty (.pointer (some ⟨b, o + i.toNat * z, none⟩)) := fun d pos after gd a ha hc w1 _ => by
  obtain ⟨hu, i', hi', hz, _⟩ := underlying_sl ht
  obtain ⟨h0, h1⟩ := hi hc
  simp [execOp, h a ha hc, h' a ha hc, Instr.indexAt, asIntOf, run_underlying hu, h0, h1, sizeOf, typeInfo, hi', hz, Addr.add_lit]
end
end Go.Rk
