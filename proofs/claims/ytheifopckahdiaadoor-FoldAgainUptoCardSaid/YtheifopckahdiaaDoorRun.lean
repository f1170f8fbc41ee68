/- The engine's third part: regions, pieces of code, functions. Conditions: none. -/
import Derived.Test.YtheifopckahdiaaDoorSym
import Derived.Maps.AppendAt
namespace Go.Rk
open Go Go.RowKit
set_option linter.unusedVariables false

/-- A contract: the call returns, and what it returns is so. -/
def Ret (P : Program) (f : FuncId) (args : Array Value) (w : World) (R : Value → World → Prop) : Prop := Calls P f args w fun e w' => ∃ v, e = .returned v ∧ R v w'
theorem Ret.mono {P : Program} {f : FuncId} {args : Array Value} {w : World} {R R' : Value → World → Prop} (h : Ret P f args w R) (hr : ∀ v w', R v w' → R' v w') : Ret P f args w R' :=
  Calls.mono h fun _ _ ⟨v, e, k⟩ => ⟨v, e, hr v _ k⟩
theorem Ret.calls {P : Program} {f : FuncId} {args : Array Value} {w : World} {R : Value → World → Prop} (h : Ret P f args w R) {R' : Ending → World → Prop} (hr : ∀ v w', R v w' → R' (.returned v) w') : Calls P f args w R' :=
  Calls.mono h fun e w' ⟨v, he, k⟩ => by subst he; exact hr v w' k

/-- A block of known cells. -/
def Blk (w : World) (b : Nat) (e : TypeId) (l : List Value) : Prop := w.heap[b]? = some (.cells l.toArray e (0, 0))
theorem Blk.lt {w : World} {b : Nat} {e : TypeId} {l : List Value} (h : Blk w b e l) : b < w.heap.size := by
  rcases Nat.lt_or_ge b w.heap.size with hlt | hge
  · exact hlt
  · unfold Blk at h; rw [Array.getElem?_eq_none hge] at h; cases h
theorem Blk.row {w : World} {b : Nat} {e : TypeId} {l : List Value} (h : Blk w b e l) : RowAt w b 0 l := fun j v hj => by
  unfold Blk at h
  simp [World.cell?, h, hj]
theorem Blk.at_ {w : World} {b : Nat} {e : TypeId} {l : List Value} (h : Blk w b e l) {i : Nat} {v : Value} (hi : l[i]? = some v) : w.cell? ⟨b, i, none⟩ = some v := by
  have := h.row i v hi
  rwa [Nat.zero_add] at this
theorem Blk.grow {w w1 : World} {b : Nat} {e : TypeId} {l : List Value} (h : Blk w b e l) (hg : G w w1) : Blk w1 b e l := (hg.block h.lt).trans h
theorem Blk.keep {w w1 : World} {b : Nat} {e : TypeId} {l : List Value} {row : Option Nat} (h : Blk w b e l) (hg : w.grownBy w1 row) (hne : some b ≠ row) : Blk w1 b e l := (hg.block b h.lt hne).trans h

/-- A new block. -/
structure New (w w1 : World) (b : Nat) (e : TypeId) (l : List Value) : Prop where
  at_ : b = w.heap.size
  blk : Blk w1 b e l
  g : G w w1
  size : w1.heap.size = w.heap.size + 1
theorem New.ge {a w w1 : World} {b : Nat} {e : TypeId} {l : List Value} (h : New w w1 b e l) (g : G a w) : a.heap.size ≤ b := by have := g.size; have := h.at_; omega
theorem New.ne {w w1 : World} {b : Nat} {e : TypeId} {l : List Value} (h : New w w1 b e l) {b' : Nat} {e' : TypeId} {l' : List Value} (hB : Blk w b' e' l') : b ≠ b' := by have := hB.lt; have := h.at_; omega
theorem new_alloc (w : World) (e : TypeId) (l : List Value) : New w (w.alloc (.cells l.toArray e)) w.heap.size e l :=
  ⟨rfl, by unfold Blk; exact heap_alloc_new w _, (Below.refl _ _).alloc (Nat.le_refl _) _, by simp⟩

theorem G.only {w w1 : World} (h : G w w1) (row : Option Nat) : w.grownBy w1 row := ⟨h.os, h.tape, h.output, h.size, fun k hk _ => h.block hk⟩
theorem only_g {w w1 : World} (h : w.grownBy w1 none) : G w w1 := ⟨h.os, h.tape, h.output, h.size, fun k hk => h.block k hk (by simp)⟩

section
variable (P : Program) (Z : List PanicEntry → Act → World → Prop) (ops : List Oper) (cl : List Nat) (lv : List Bool) (W0 : World) (n : Nat) (K : Act → World → Prop)
def SR (k : Nat) (l : List Oper) (σ : List Ent) (w : World) : Prop :=
  (∀ j o, l[j]? = some o → ops.toArray[k + j]? = some o) → ∀ a, Kn n σ a → RS P Z ops.toArray (clOf cl) (lvOf lv) W0 K (List.range' k l.length) a w
end

section
variable {P : Program} {Z : List PanicEntry → Act → World → Prop} {ops : List Oper} {cl : List Nat} {lv : List Bool} {W0 : World} {n : Nat} {K : Act → World → Prop} {k : Nat} {rest : List Oper} {σ : List Ent} {w : World} {d : Nat} {op : Op} {ty : TypeId} {pos : String} {after : Array Edge} {v : Value}

theorem sr_nil (h : ∀ a, Kn n σ a → K a w) : SR P Z ops cl lv W0 n K k [] σ w := fun _ a ha => h a ha
theorem sr_sub {l : List Oper} (τ : List Ent) (hs : Sub τ σ) (h : SR P Z ops cl lv W0 n K k l τ w) : SR P Z ops cl lv W0 n K k l σ w := fun hl a ha => h hl a (ha.sub hs)

theorem shift_ops {l : List Oper} {o : Oper} (hl : ∀ j o', (o :: l)[j]? = some o' → ops.toArray[k + j]? = some o') : ops.toArray[k]? = some o ∧ ∀ j o', l[j]? = some o' → ops.toArray[k + 1 + j]? = some o' :=
  ⟨hl 0 o rfl, fun j o' h => by have := hl (j + 1) o' h; rwa [show k + (j + 1) = k + 1 + j by omega] at this⟩

theorem want_none {d : Option Nat} {y : Nat → Option Bool} : Region.wanted ⟨d, op, ty, pos, after, none⟩ y = true := rfl

theorem sr_rd (hb : (Nat.beq (clOf cl k) 0 && lvOf lv k && Nat.blt d n) = true) (hr : Rd P n σ True w op ty v) (h : SR P Z ops cl lv W0 n K (k + 1) rest ((d, True, v) :: σ) w) :
    SR P Z ops cl lv W0 n K k (⟨some d, op, ty, pos, after, none⟩ :: rest) σ w := fun hl a ha => by
  obtain ⟨h0, h1⟩ := shift_ops hl
  simp only [Bool.and_eq_true] at hb
  obtain ⟨⟨hc, hv⟩, hd⟩ := hb
  rw [List.length_cons, List.range'_succ]
  refine ⟨_, h0, ?_⟩
  have hc := Nat.eq_of_beq_eq_true hc
  rw [if_pos (.inl hc)]
  refine ⟨v, fun _ w1 hg => ?_, (fun hn => by cases hn), h h1 _ (ha.put hd (fun _ => rfl) (fun hn => absurd trivial hn))⟩
  have hg := hg.resolve_left (by omega)
  rw [if_pos hv] at hg
  exact hr _ _ _ _ a ha trivial w1 hg
theorem sr_rd0 (hb : (Nat.beq (clOf cl k) 0 && !lvOf lv k && Nat.blt d n) = true) (hr : Rd P n σ True W0 op ty v) (h : SR P Z ops cl lv W0 n K (k + 1) rest ((d, True, v) :: σ) w) :
    SR P Z ops cl lv W0 n K k (⟨some d, op, ty, pos, after, none⟩ :: rest) σ w := fun hl a ha => by
  obtain ⟨h0, h1⟩ := shift_ops hl
  simp only [Bool.and_eq_true, Bool.not_eq_true'] at hb
  obtain ⟨⟨hc, hv⟩, hd⟩ := hb
  rw [List.length_cons, List.range'_succ]
  refine ⟨_, h0, ?_⟩
  have hc := Nat.eq_of_beq_eq_true hc
  rw [if_pos (.inl hc)]
  refine ⟨v, fun _ w1 hg => ?_, (fun hn => by cases hn), h h1 _ (ha.put hd (fun _ => rfl) (fun hn => absurd trivial hn))⟩
  have hg := hg.resolve_left (by omega)
  rw [if_neg (by rw [hv]; simp)] at hg
  exact hr _ _ _ _ a ha trivial w1 hg

theorem want_of {g t : Nat} {want b : Bool} {c0 : Prop} {a : Act} (hgd : ((ops.toArray[g]?).bind (·.dst)) = some t) (hlk : look σ t = some (c0, .bool b)) (ha : Kn n σ a) {d : Option Nat} :
    Region.wanted ⟨d, op, ty, pos, after, some (g, want)⟩ (yielded ops.toArray a.tmps) = true ↔ c0 ∧ b = want := by
  obtain ⟨h1, h2⟩ := ha.2.2 t c0 (.bool b) hlk
  unfold Region.wanted yielded
  simp only [hgd, Option.bind_some]
  by_cases hc : c0
  · rw [h1 hc]; simp [hc]
  · rw [h2 hc]; simp [hc, undef]

open Classical in
theorem sr_rdg {g t : Nat} {want b : Bool} {c0 : Prop} (hb : (Nat.beq (clOf cl k) 0 && lvOf lv k && Nat.blt d n) = true) (hgd : ((ops.toArray[g]?).bind (·.dst)) = some t) (hlk : look σ t = some (c0, .bool b))
    (hr : Rd P n σ (c0 ∧ b = want) w op ty v) (h : SR P Z ops cl lv W0 n K (k + 1) rest ((d, c0 ∧ b = want, v) :: σ) w) :
    SR P Z ops cl lv W0 n K k (⟨some d, op, ty, pos, after, some (g, want)⟩ :: rest) σ w := fun hl a ha => by
  obtain ⟨h0, h1⟩ := shift_ops hl
  simp only [Bool.and_eq_true] at hb
  obtain ⟨⟨hc, hv⟩, hd⟩ := hb
  rw [List.length_cons, List.range'_succ]
  refine ⟨_, h0, ?_⟩
  have hc := Nat.eq_of_beq_eq_true hc
  rw [if_pos (.inl hc)]
  have hw := want_of (op := op) (ty := ty) (pos := pos) (after := after) (want := want) (d := some d) hgd hlk ha
  refine ⟨if c0 ∧ b = want then v else undef, fun hwt w1 hg => ?_, fun hn => ?_, h h1 _ (ha.put hd (fun hh => if_pos hh) (fun hh => if_neg hh))⟩
  · have hg := hg.resolve_left (by omega)
    rw [if_pos hv] at hg
    rw [if_pos (hw.1 hwt)]
    exact hr _ _ _ _ a ha (hw.1 hwt) w1 hg
  · rw [if_neg (fun hh => by rw [hw.2 hh] at hn; cases hn)]
open Classical in
theorem sr_rdg0 {g t : Nat} {want b : Bool} {c0 : Prop} (hb : (Nat.beq (clOf cl k) 0 && !lvOf lv k && Nat.blt d n) = true) (hgd : ((ops.toArray[g]?).bind (·.dst)) = some t) (hlk : look σ t = some (c0, .bool b))
    (hr : Rd P n σ (c0 ∧ b = want) W0 op ty v) (h : SR P Z ops cl lv W0 n K (k + 1) rest ((d, c0 ∧ b = want, v) :: σ) w) :
    SR P Z ops cl lv W0 n K k (⟨some d, op, ty, pos, after, some (g, want)⟩ :: rest) σ w := fun hl a ha => by
  obtain ⟨h0, h1⟩ := shift_ops hl
  simp only [Bool.and_eq_true, Bool.not_eq_true'] at hb
  obtain ⟨⟨hc, hv⟩, hd⟩ := hb
  rw [List.length_cons, List.range'_succ]
  refine ⟨_, h0, ?_⟩
  have hc := Nat.eq_of_beq_eq_true hc
  rw [if_pos (.inl hc)]
  have hw := want_of (op := op) (ty := ty) (pos := pos) (after := after) (want := want) (d := some d) hgd hlk ha
  refine ⟨if c0 ∧ b = want then v else undef, fun hwt w1 hg => ?_, fun hn => ?_, h h1 _ (ha.put hd (fun hh => if_pos hh) (fun hh => if_neg hh))⟩
  · have hg := hg.resolve_left (by omega)
    rw [if_neg (by rw [hv]; simp)] at hg
    rw [if_pos (hw.1 hwt)]
    exact hr _ _ _ _ a ha (hw.1 hwt) w1 hg
  · rw [if_neg (fun hh => by rw [hw.2 hh] at hn; cases hn)]

/-- An operation that looks at no memory. -/
theorem sr_pu (hb : (Nat.beq (clOf cl k) 3 && Nat.blt d n) = true) (hr : ∀ wb, Rd P n σ True wb op ty v) (h : SR P Z ops cl lv W0 n K (k + 1) rest ((d, True, v) :: σ) w) :
    SR P Z ops cl lv W0 n K k (⟨some d, op, ty, pos, after, none⟩ :: rest) σ w := fun hl a ha => by
  obtain ⟨h0, h1⟩ := shift_ops hl
  simp only [Bool.and_eq_true] at hb
  rw [List.length_cons, List.range'_succ]
  refine ⟨_, h0, ?_⟩
  rw [if_pos (.inr (Nat.eq_of_beq_eq_true hb.1))]
  exact ⟨v, fun _ w1 _ => hr w1 _ _ _ _ a ha trivial w1 (G.refl _), (fun hn => by cases hn), h h1 _ (ha.put hb.2 (fun _ => rfl) (fun hn => absurd trivial hn))⟩
open Classical in
theorem sr_pug {g t : Nat} {want b : Bool} {c0 : Prop} (hb : (Nat.beq (clOf cl k) 3 && Nat.blt d n) = true) (hgd : ((ops.toArray[g]?).bind (·.dst)) = some t) (hlk : look σ t = some (c0, .bool b))
    (hr : ∀ wb, Rd P n σ (c0 ∧ b = want) wb op ty v) (h : SR P Z ops cl lv W0 n K (k + 1) rest ((d, c0 ∧ b = want, v) :: σ) w) :
    SR P Z ops cl lv W0 n K k (⟨some d, op, ty, pos, after, some (g, want)⟩ :: rest) σ w := fun hl a ha => by
  obtain ⟨h0, h1⟩ := shift_ops hl
  simp only [Bool.and_eq_true] at hb
  rw [List.length_cons, List.range'_succ]
  refine ⟨_, h0, ?_⟩
  rw [if_pos (.inr (Nat.eq_of_beq_eq_true hb.1))]
  have hw := want_of (op := op) (ty := ty) (pos := pos) (after := after) (want := want) (d := some d) hgd hlk ha
  refine ⟨if c0 ∧ b = want then v else undef, fun hwt w1 _ => ?_, fun hn => ?_, h h1 _ (ha.put hb.2 (fun hh => if_pos hh) (fun hh => if_neg hh))⟩
  · rw [if_pos (hw.1 hwt)]
    exact hr w1 _ _ _ _ a ha (hw.1 hwt) w1 (G.refl _)
  · rw [if_neg (fun hh => by rw [hw.2 hh] at hn; cases hn)]

/-- What an operation that makes or writes memory comes to. -/
def RunV (P : Program) (n : Nat) (σ : List Ent) (c : Prop) (w : World) (op : Op) (ty : TypeId) (v : Value) (w' : World) : Prop :=
  ∀ (d : Option Tmp) (pos : String) (after : Array Edge) (g : Option (Nat × Bool)) (a : Act), Kn n σ a → c → (execOp a.eval ⟨d, op, ty, pos, after, g⟩).run P w = .ok (.value v) w'
def RunS (P : Program) (n : Nat) (σ : List Ent) (c : Prop) (w : World) (op : Op) (ty : TypeId) (w' : World) : Prop :=
  ∀ (d : Option Tmp) (pos : String) (after : Array Edge) (g : Option (Nat × Bool)) (a : Act), Kn n σ a → c → (execOp a.eval ⟨d, op, ty, pos, after, g⟩).run P w = .ok .skip w'
/-- It enters a function. -/
def RunC (P : Program) (n : Nat) (σ : List Ent) (c : Prop) (w : World) (op : Op) (ty : TypeId) (f : FuncId) (args : Array Value) : Prop :=
  ∀ (d : Option Tmp) (pos : String) (after : Array Edge) (g : Option (Nat × Bool)) (a : Act), Kn n σ a → c → (execOp a.eval ⟨d, op, ty, pos, after, g⟩).run P w = .ok (.enter f args) w

theorem sr_val {w' : World} (hb : (!Nat.beq (clOf cl k) 0 && !Nat.beq (clOf cl k) 3 && Nat.blt d n) = true) (hr : RunV P n σ True w op ty v w') (hg : clOf cl k = 1 → G w w') (h : SR P Z ops cl lv W0 n K (k + 1) rest ((d, True, v) :: σ) w') :
    SR P Z ops cl lv W0 n K k (⟨some d, op, ty, pos, after, none⟩ :: rest) σ w := fun hl a ha => by
  obtain ⟨h0, h1⟩ := shift_ops hl
  simp only [Bool.and_eq_true, Bool.not_eq_true'] at hb
  rw [List.length_cons, List.range'_succ]
  refine ⟨_, h0, ?_⟩
  rw [if_neg (fun he => by rcases he with he | he <;> rw [he] at hb <;> simp at hb), if_pos want_none]
  exact .inl ⟨v, w', hr _ _ _ _ a ha trivial, fun hh => hg (by simpa using hh), h h1 _ (ha.put hb.2 (fun _ => rfl) (fun hn => absurd trivial hn))⟩
theorem sr_skip {w' : World} (hb : Nat.beq (clOf cl k) 2 = true) (hr : RunS P n σ True w op ty w') (h : SR P Z ops cl lv W0 n K (k + 1) rest σ w') :
    SR P Z ops cl lv W0 n K k (⟨none, op, ty, pos, after, none⟩ :: rest) σ w := fun hl a ha => by
  obtain ⟨h0, h1⟩ := shift_ops hl
  have hc := Nat.eq_of_beq_eq_true hb
  rw [List.length_cons, List.range'_succ]
  refine ⟨_, h0, ?_⟩
  rw [if_neg (by omega), if_pos want_none]
  exact .inr (.inl ⟨w', hr _ _ _ _ a ha trivial, fun hh => by rw [hc] at hh; simp at hh, h h1 _ ha⟩)
theorem sr_call {f : FuncId} {args : Array Value} {R : Value → World → Prop} (hb : (!Nat.beq (clOf cl k) 0 && !Nat.beq (clOf cl k) 3 && Nat.blt d n) = true) (hr : RunC P n σ True w op ty f args) (hC : Ret P f args w R)
    (h : ∀ v w', R v w' → (clOf cl k = 1 → G w w') ∧ SR P Z ops cl lv W0 n K (k + 1) rest ((d, True, v) :: σ) w') :
    SR P Z ops cl lv W0 n K k (⟨some d, op, ty, pos, after, none⟩ :: rest) σ w := fun hl a ha => by
  obtain ⟨h0, h1⟩ := shift_ops hl
  simp only [Bool.and_eq_true, Bool.not_eq_true'] at hb
  rw [List.length_cons, List.range'_succ]
  refine ⟨_, h0, ?_⟩
  rw [if_neg (fun he => by rcases he with he | he <;> rw [he] at hb <;> simp at hb), if_pos want_none]
  refine .inr (.inr (.inl ⟨f, args, hr _ _ _ _ a ha trivial, Calls.mono hC fun e w' ⟨v, he, hv⟩ => .inl ?_⟩))
  obtain ⟨q1, q2⟩ := h v w' hv
  exact ⟨v, he, fun hh => q1 (by simpa using hh), q2 h1 _ (ha.put hb.2 (fun _ => rfl) (fun hn => absurd trivial hn))⟩
/-- A guarded call: where its guard says no, the slot is empty. -/
theorem sr_callg {g t : Nat} {want b : Bool} {c0 : Prop} {f : FuncId} {args : Array Value} {R : Value → World → Prop} (hb : (!Nat.beq (clOf cl k) 0 && !Nat.beq (clOf cl k) 3 && Nat.blt d n) = true)
    (hgd : ((ops.toArray[g]?).bind (·.dst)) = some t) (hlk : look σ t = some (c0, .bool b)) (hr : c0 ∧ b = want → RunC P n σ (c0 ∧ b = want) w op ty f args) (hC : c0 ∧ b = want → Ret P f args w R)
    (h : ∀ v w', (c0 ∧ b = want) → R v w' → (clOf cl k = 1 → G w w') ∧ SR P Z ops cl lv W0 n K (k + 1) rest ((d, c0 ∧ b = want, v) :: σ) w')
    (h' : ¬ (c0 ∧ b = want) → SR P Z ops cl lv W0 n K (k + 1) rest ((d, c0 ∧ b = want, undef) :: σ) w) :
    SR P Z ops cl lv W0 n K k (⟨some d, op, ty, pos, after, some (g, want)⟩ :: rest) σ w := fun hl a ha => by
  obtain ⟨h0, h1⟩ := shift_ops hl
  simp only [Bool.and_eq_true, Bool.not_eq_true'] at hb
  rw [List.length_cons, List.range'_succ]
  have hw := want_of (op := op) (ty := ty) (pos := pos) (after := after) (want := want) (d := some d) hgd hlk ha
  refine ⟨_, h0, ?_⟩
  rw [if_neg (fun he => by rcases he with he | he <;> rw [he] at hb <;> simp at hb)]
  by_cases hh : c0 ∧ b = want
  · rw [if_pos (hw.2 hh)]
    refine .inr (.inr (.inl ⟨f, args, hr hh _ _ _ _ a ha hh, Calls.mono (hC hh) fun e w' ⟨v, he, hv⟩ => .inl ?_⟩))
    obtain ⟨q1, q2⟩ := h v w' hh hv
    exact ⟨v, he, fun hq => q1 (by simpa using hq), q2 h1 _ (ha.put hb.2 (fun _ => rfl) (fun hn => absurd hh hn))⟩
  · rw [if_neg (fun hq => hh (hw.1 hq))]
    exact h' hh h1 _ (ha.put hb.2 (fun hq => absurd hq hh) (fun _ => rfl))
/-- A call that only reads: it may be taken at its place among the reads. -/
theorem sr_pure {f : FuncId} {args : Array Value} (hb : (!Nat.beq (clOf cl k) 0 && !Nat.beq (clOf cl k) 3 && Nat.blt d n) = true) (hr : RunC P n σ True w op ty f args) (hC : Ret P f args w fun u w' => u = v ∧ G w w')
    (h : ∀ w', G w w' → SR P Z ops cl lv W0 n K (k + 1) rest ((d, True, v) :: σ) w') :
    SR P Z ops cl lv W0 n K k (⟨some d, op, ty, pos, after, none⟩ :: rest) σ w :=
  sr_call hb hr hC fun u w' ⟨hu, hg⟩ => ⟨fun _ => hg, by subst hu; exact h w' hg⟩

theorem sr_pureg {g t : Nat} {want b : Bool} {c0 : Prop} {f : FuncId} {args : Array Value} (hb : (!Nat.beq (clOf cl k) 0 && !Nat.beq (clOf cl k) 3 && Nat.blt d n) = true) (hgd : ((ops.toArray[g]?).bind (·.dst)) = some t) (hlk : look σ t = some (c0, .bool b))
    (hr : c0 ∧ b = want → RunC P n σ (c0 ∧ b = want) w op ty f args) (hC : c0 ∧ b = want → Ret P f args w fun u w' => u = v ∧ G w w')
    (h : ∀ w', G w w' → SR P Z ops cl lv W0 n K (k + 1) rest ((d, c0 ∧ b = want, v) :: σ) w') :
    SR P Z ops cl lv W0 n K k (⟨some d, op, ty, pos, after, some (g, want)⟩ :: rest) σ w := fun hl a ha => by
  obtain ⟨h0, h1⟩ := shift_ops hl
  simp only [Bool.and_eq_true, Bool.not_eq_true'] at hb
  rw [List.length_cons, List.range'_succ]
  have hw := want_of (op := op) (ty := ty) (pos := pos) (after := after) (want := want) (d := some d) hgd hlk ha
  refine ⟨_, h0, ?_⟩
  rw [if_neg (fun he => by rcases he with he | he <;> rw [he] at hb <;> simp at hb)]
  by_cases hh : c0 ∧ b = want
  · rw [if_pos (hw.2 hh)]
    refine .inr (.inr (.inl ⟨f, args, hr hh _ _ _ _ a ha hh, Calls.mono (hC hh) fun e w' ⟨u, he, hu, hg⟩ => .inl ?_⟩))
    subst hu
    exact ⟨u, he, fun _ => hg, h w' hg h1 _ (ha.put hb.2 (fun _ => rfl) (fun hn => absurd hh hn))⟩
  · rw [if_neg (fun hq => hh (hw.1 hq))]
    exact h w (G.refl w) h1 _ (ha.put hb.2 (fun hq => absurd hq hh) (fun _ => rfl))
/-! the operations that make memory -/
theorem sr_box {elem : TypeId} {x : Operand} {u : Value} {l : List Value} (hb : (!Nat.beq (clOf cl k) 0 && !Nat.beq (clOf cl k) 3 && Nat.blt d n) = true) (hx : Ev n σ True x u) (hl : u.cells = l.toArray)
    (h : ∀ b w1, New w w1 b elem l → SR P Z ops cl lv W0 n K (k + 1) rest ((d, True, .pointer (some ⟨b, 0, none⟩)) :: σ) w1) :
    SR P Z ops cl lv W0 n K k (⟨some d, .box elem x, ty, pos, after, none⟩ :: rest) σ w :=
  sr_val hb (w' := w.alloc (.cells l.toArray elem)) (fun d pos after g a ha _ => by simp [execOp, hx a ha trivial, Instr.box, newVar, newRow, hl]) (fun _ => (new_alloc w elem l).g) (h _ _ (new_alloc w elem l))

def zeroOf (P : Program) (t : TypeId) : Option Value := match P.info? t with | some i => i.zero | none => none
theorem zero_info {t : TypeId} {z : Value} (h : zeroOf P t = some z) : ∃ i, P.info? t = some i ∧ i.zero = some z := by
  unfold zeroOf at h
  split at h
  · exact ⟨_, by assumption, h⟩
  · cases h
theorem sr_alloc {elem : TypeId} {z : Value} {l : List Value} (hb : (!Nat.beq (clOf cl k) 0 && !Nat.beq (clOf cl k) 3 && Nat.blt d n) = true) (hz : zeroOf P elem = some z) (hl : z.cells = l.toArray)
    (h : ∀ b w1, New w w1 b elem l → SR P Z ops cl lv W0 n K (k + 1) rest ((d, True, .pointer (some ⟨b, 0, none⟩)) :: σ) w1) :
    SR P Z ops cl lv W0 n K k (⟨some d, .alloc elem, ty, pos, after, none⟩ :: rest) σ w := by
  obtain ⟨i, hi, hz'⟩ := zero_info hz
  exact sr_val hb (w' := w.alloc (.cells l.toArray elem)) (fun d pos after g a ha _ => by simp [execOp, Instr.alloc, zeroValue, typeInfo, hi, hz', newVar, newRow, hl]) (fun _ => (new_alloc w elem l).g) (h _ _ (new_alloc w elem l))

/-- The parts of a literal, evaluated. -/
def EvParts (n : Nat) (σ : List Ent) (c : Prop) (ps : Array (Nat × Operand)) (vs : List (Nat × Value)) : Prop := ∀ a, Kn n σ a → c → (ps.map fun p => (p.1, a.eval p.2)).toList = vs
theorem parts_nil {n : Nat} {σ : List Ent} {c : Prop} : EvParts n σ c #[] [] := fun _ _ _ => by simp
theorem parts_cons {n : Nat} {σ : List Ent} {c : Prop} {i : Nat} {x : Operand} {u : Value} {ps : List (Nat × Operand)} {vs : List (Nat × Value)} (h : Ev n σ c x u) (k : EvParts n σ c ps.toArray vs) : EvParts n σ c ((i, x) :: ps).toArray ((i, u) :: vs) := fun a ha hc => by
  have := k a ha hc
  simp only [List.map_toArray, List.toList_toArray] at this ⊢
  rw [List.map_cons, this, h a ha hc]

def structPlaces (P : Program) (t : TypeId) : Option (List (Nat × Nat)) := match P.underlying t with
  | some (.struct fs) => fs.toList.mapM fun f => (P.info? f.type).map fun i => (f.offset, i.size)
  | _ => none
theorem places_run (w : World) : ∀ (fs : List Field) (ps : List (Nat × Nat)), (fs.mapM fun f => (P.info? f.type).map fun i => (f.offset, i.size)) = some ps →
    (fs.mapM (fun f => (do pure (f.offset, ← sizeOf f.type) : Sem (Nat × Nat)))).run P w = .ok ps w
  | [], ps, h => by simp at h; subst h; rfl
  | f :: fs, ps, h => by
    rw [List.mapM_cons] at h
    cases hi : P.info? f.type with
    | none => rw [hi] at h; simp at h
    | some i =>
      rw [hi] at h
      cases hr : (fs.mapM fun f => (P.info? f.type).map fun i => (f.offset, i.size)) with
      | none => rw [hr] at h; simp at h
      | some qs =>
        rw [hr] at h
        simp at h
        subst h
        have := places_run w fs qs hr
        rw [List.mapM_cons]
        simp [sizeOf, typeInfo, hi] at this ⊢
        rw [this]
        simp
/-- A literal's cells, as lists. -/
def fillL (pl : Nat → Option (Nat × Nat)) : List Value → List (Nat × Value) → Option (List Value)
  | cs, [] => some cs
  | cs, (i, v) :: rest => match pl i with
    | none => none
    | some (off, z) => if Nat.beq v.cells.toList.length z && Nat.ble (off + z) cs.length then fillL pl (cs.take off ++ v.cells.toList ++ cs.drop (off + z)) rest else none
theorem set_splice : ∀ (vs : List Value) (off i : Nat) (cs : List Value), off + i + vs.length ≤ cs.length →
    (vs.zipIdx i).foldl (fun (cs : Array Value) (p : Value × Nat) => cs.setIfInBounds (off + p.2) p.1) cs.toArray = (cs.take (off + i) ++ vs ++ cs.drop (off + i + vs.length)).toArray
  | [], off, i, cs, _ => by simp
  | v :: vs, off, i, cs, h => by
    simp only [List.length_cons] at h
    rw [List.zipIdx_cons, List.foldl_cons]
    have e : (cs.toArray.setIfInBounds (off + i) v) = (cs.set (off + i) v).toArray := by simp
    simp only [e]
    rw [set_splice vs off (i + 1) _ (by simp; omega)]
    have hlt : off + i < cs.length := by omega
    have e1 : (cs.set (off + i) v).take (off + (i + 1)) = cs.take (off + i) ++ [v] := by
      rw [show off + (i + 1) = (off + i) + 1 by omega, List.take_add_one, List.take_set_of_le (Nat.le_refl _)]
      simp [hlt]
    have e2 : (cs.set (off + i) v).drop (off + (i + 1) + vs.length) = cs.drop (off + i + (v :: vs).length) := by
      rw [List.drop_set_of_lt (by omega)]; congr 1; simp; omega
    rw [e1, e2]
    simp [List.append_assoc]
theorem fill_list (pl : Nat → Option (Nat × Nat)) : ∀ (vs : List (Nat × Value)) (cs l : List Value), fillL pl cs vs = some l → Instr.fill pl cs.toArray vs = some l.toArray
  | [], cs, l, h => by injection h with h; subst h; rfl
  | (i, v) :: rest, cs, l, h => by
    unfold fillL at h
    unfold Instr.fill
    split at h
    · cases h
    · rename_i off z hp
      split at h
      · rename_i hc
        simp only [Bool.and_eq_true] at hc
        have h1 := Nat.eq_of_beq_eq_true hc.1
        have h2 := Nat.le_of_ble_eq_true hc.2
        simp only [hp]
        have h3 : v.cells.size = z := by simpa using h1
        rw [if_neg (by simp [h3]; omega)]
        have e : v.cells.zipIdx.foldl (fun cs x => cs.setIfInBounds (off + x.2) x.1) cs.toArray = (cs.take off ++ v.cells.toList ++ cs.drop (off + z)).toArray := by
          have := set_splice v.cells.toList off 0 cs (by rw [h1]; omega)
          rw [h1] at this
          simp only [Nat.add_zero] at this
          rw [← this, ← Array.foldl_toList, Array.toList_zipIdx]
        have e' := fill_list pl rest _ l h
        rw [← e] at e'
        exact e'
      · cases h
theorem rd_build {c : Prop} {wb : World} {t : TypeId} {ps : Array (Nat × Operand)} {vs : List (Nat × Value)} {pl : List (Nat × Nat)} {z : Value} {zl : List Value} (l : List Value) (hz : zeroOf P t = some z) (hzl : z.cells = zl.toArray) (hp : structPlaces P t = some pl) (hx : EvParts n σ c ps vs)
    (hf : fillL (fun (i : Nat) => pl[i]?) zl vs = some l) : Rd P n σ c wb (.build t ps) ty (.agg l.toArray) := fun d pos after g a ha hc w1 _ => by
  have hf := fill_list _ _ _ _ hf
  rw [← hzl] at hf
  obtain ⟨i, hi, hz'⟩ := zero_info hz
  unfold structPlaces at hp
  split at hp
  · rename_i fs hfs
    have hpl := places_run (P := P) w1 fs.toList pl hp
    have hpl' : (fs.mapM (fun f => (do pure (f.offset, ← sizeOf f.type) : Sem (Nat × Nat)))).run P w1 = .ok pl.toArray w1 := by
      rw [Array.mapM_eq_mapM_toList]
      simp only [Sem.run_map, hpl, Result.andThen_ok]
    have hx' := hx a ha hc
    simp only [execOp, Instr.build, Sem.run_bind, zeroValue, typeInfo, run_program, Result.andThen_ok, hi, hz', Sem.run_pure, run_underlying hfs]
    rw [hpl']
    simp only [Result.andThen_ok]
    have hfun : (fun (x : Nat) => pl.toArray[x]?) = (fun (i : Nat) => pl[i]?) := by funext i; simp
    rw [hfun, hx', hf]
    rfl
  · cases hp
/-- The elements of a slice's literal in order. -/
def fillS (z : Nat) : Nat → List (Nat × Value) → Option (List Value)
  | _, [] => some []
  | k, (i, v) :: rest => if Nat.beq i k && Nat.beq v.cells.toList.length z then (fillS z (k + 1) rest).map (v.cells.toList ++ ·) else none
theorem fillS_list (z : Nat) : ∀ (vs : List (Nat × Value)) (k : Nat) (done cs l : List Value), fillS z k vs = some l → done.length = k * z → cs.length = (k + vs.length) * z → cs.take (k * z) = done →
    fillL (fun i => some (i * z, z)) cs vs = some (done ++ l)
  | [], k, done, cs, l, h, h1, h2, h3 => by
    injection h with h
    subst h
    unfold fillL
    rw [← h3, List.append_nil, List.take_of_length_le (by rw [h2]; simp)]
  | (i, v) :: rest, k, done, cs, l, h, h1, h2, h3 => by
    unfold fillS at h
    split at h
    · rename_i hc
      simp only [Bool.and_eq_true] at hc
      have e1 := Nat.eq_of_beq_eq_true hc.1
      have e2 := Nat.eq_of_beq_eq_true hc.2
      subst e1
      cases hr : fillS z (i + 1) rest with
      | none => rw [hr] at h; cases h
      | some l' =>
        rw [hr] at h
        injection h with h
        subst h
        unfold fillL
        simp only [List.length_cons] at h2
        have hm : (i + 1) * z = i * z + z := by rw [Nat.add_mul, Nat.one_mul]
        have hm2 : (i + (rest.length + 1)) * z = i * z + z + rest.length * z := by rw [Nat.add_mul, Nat.add_mul, Nat.one_mul]; omega
        have hle : i * z + z ≤ cs.length := by rw [h2, hm2]; omega
        dsimp only
        rw [if_pos (by rw [Bool.and_eq_true]; exact ⟨hc.2, Nat.ble_eq_true_of_le hle⟩)]
        have := fillS_list z rest (i + 1) (done ++ v.cells.toList) (cs.take (i * z) ++ v.cells.toList ++ cs.drop (i * z + z)) l' hr (by rw [List.length_append, h1, e2, hm]) (by
          rw [List.length_append, List.length_append, e2, List.length_take, List.length_drop, h2, hm2, Nat.add_mul, hm]; omega) (by
          rw [hm, List.take_append_of_le_length (by rw [List.length_append, e2, List.length_take]; omega), List.take_of_length_le (by rw [List.length_append, e2, List.length_take]; omega), h3])
        rw [this, List.append_assoc]
    · cases h
theorem sr_buildSlice {t e z by_ m : Nat} {ps : Array (Nat × Operand)} {vs : List (Nat × Value)} {zv : Value} (l : List Value) (hb : (!Nat.beq (clOf cl k) 0 && !Nat.beq (clOf cl k) 3 && Nat.blt d n) = true) (ht : tyElem P t = some (e, z, by_)) (hz : zeroOf P e = some zv)
    (hx : EvParts n σ True ps vs) (hm : (Nat.ble (m * z) 16777216 && !Nat.beq (m * z) 0 && Nat.beq vs.length m) = true) (hf : fillS z 0 vs = some l)
    (h : ∀ b w1, New w w1 b e l → SR P Z ops cl lv W0 n K (k + 1) rest ((d, True, .slice (some ⟨b, 0, none⟩) m m) :: σ) w1) :
    SR P Z ops cl lv W0 n K k (⟨some d, .buildSlice t m ps, ty, pos, after, none⟩ :: rest) σ w := by
  obtain ⟨hu, i, hi, hsz, _⟩ := underlying_sl ht
  obtain ⟨i', hi', hz'⟩ := zero_info hz
  obtain rfl : i = i' := Option.some.inj (hi.symm.trans hi')
  simp only [Bool.and_eq_true, Bool.not_eq_true'] at hm
  have hm1 : ¬ (m * z > 2 ^ 24) := by have := Nat.le_of_ble_eq_true hm.1.1; omega
  have hm2 : ¬ (m * z = 0) := by intro he; rw [he] at hm; simp at hm
  have hvl := Nat.eq_of_beq_eq_true hm.2
  have hfill : Instr.fill (fun i => some (i * z, z)) ((Array.range (m * z)).map (zv.cells[· % zv.cells.size]!)) vs = some l.toArray := by
    have h1 := fillS_list z vs 0 [] ((Array.range (m * z)).map (zv.cells[· % zv.cells.size]!)).toList l hf (by simp) (by simp [hvl]) (by simp)
    have := fill_list _ _ _ _ h1
    rwa [Array.toArray_toList] at this
  refine sr_val hb (w' := w.alloc (.cells l.toArray e)) (fun d pos after g a ha _ => ?_) (fun _ => (new_alloc w e l).g) (h _ _ (new_alloc w e l))
  have hx' := hx a ha trivial
  simp only [execOp, Instr.buildSlice, Sem.run_bind, run_underlying hu, Result.andThen_ok, sizeOf, typeInfo, run_program, hi, Sem.run_pure, hsz, if_neg hm1, if_neg hm2, zeroValue, hz']
  rw [hx', hfill]
  simp [newRow]

/-! calls -/
def goFn (P : Program) (f : FuncId) : Bool := match P.funcs[f]? with | some fn => !(fn.name == "runtime.NumGoroutine") && fn.body.isSome | none => false
def EvArgs (n : Nat) (σ : List Ent) (c : Prop) (xs : List Operand) (vs : List Value) : Prop := ∀ a, Kn n σ a → c → xs.map a.eval = vs
theorem args_nil {n : Nat} {σ : List Ent} {c : Prop} : EvArgs n σ c [] [] := fun _ _ _ => rfl
theorem args_cons {n : Nat} {σ : List Ent} {c : Prop} {x : Operand} {u : Value} {xs : List Operand} {vs : List Value} (h : Ev n σ c x u) (k : EvArgs n σ c xs vs) : EvArgs n σ c (x :: xs) (u :: vs) := fun a ha hc => by
  rw [List.map_cons, h a ha hc, k a ha hc]
theorem run_goFn {f : FuncId} (hf : goFn P f = true) (args : Array Value) (w : World) : (callFunc f args).run P w = .ok (.enter f args) w := by
  unfold goFn at hf
  split at hf
  · rename_i fn hfn
    simp only [Bool.and_eq_true, Bool.not_eq_true'] at hf
    obtain ⟨h1, h2⟩ := hf
    have h3 : ¬ fn.body = none := by intro hb; rw [hb] at h2; cases h2
    have h4 : ¬ fn.name = "runtime.NumGoroutine" := by simpa using h1
    simp [callFunc, hfn, h4, h3]
  · cases hf
theorem rc_call {c : Prop} {x : Operand} {f : FuncId} {fs cs : Array Value} {xs : List Operand} {vs : List Value} {ats : Array TypeId} {args : Array Value} (hf : goFn P f = true) (h : Ev n σ c x (.func (.func f) fs cs)) (hx : EvArgs n σ c xs vs)
    (ha : fs ++ vs.toArray ++ cs = args) : RunC P n σ c w (.call { callee := .value x, args := xs.toArray, argTypes := ats }) ty f args := fun d pos after g a hk hc => by
  have h1 := hx a hk hc
  have h2 : xs.toArray.map a.eval = vs.toArray := by rw [List.map_toArray, h1]
  simp only [execOp, resolve, h a hk hc, h2, Deferred.ofValue, Sem.run_bind, Sem.run_pure, Result.andThen_ok, invoke, ha]
  exact run_goFn hf args w

def onesB (l : List Value) : Bool := l.all (·.oneCell')
theorem ones_of {l : List Value} (h : onesB l = true) : ∀ u ∈ l, u.oneCell' = true := fun u hu => List.all_eq_true.1 h u hu
/-! stores -/
theorem run_setCell {b o : Nat} {e : TypeId} {l : List Value} {v : Value} (hB : Blk w b e l) (ho : o < l.length) (hv : v.oneCell' = true) :
    (store ⟨b, o, none⟩ v).run P w = .ok () (w.setCell ⟨b, o, none⟩ v) ∧ Blk (w.setCell ⟨b, o, none⟩ v) b e (l.set o v) ∧ w.grownBy (w.setCell ⟨b, o, none⟩ v) (some b) := by
  have hc : w.cell? ⟨b, o, none⟩ = some l[o] := hB.at_ (List.getElem?_eq_getElem ho)
  have hfz : w.frozen? ⟨b, o, none⟩ = false := by unfold Blk at hB; simp [World.frozen?, hB]
  refine ⟨?_, ?_, ⟨rfl, rfl, rfl, by simp, fun k hk hne => Below.heap_setCell _ _ _ _ (fun he => hne (by rw [he]))⟩⟩
  · rw [run_store P w _ v _ hv, hc]; simp [hfz]
  · unfold Blk at hB ⊢
    simp [World.setCell, Array.getElem?_modify, hB]
theorem grownBy_trans {a b c : World} {row : Option Nat} (h : a.grownBy b row) (k : b.grownBy c row) : a.grownBy c row :=
  ⟨k.os.trans h.os, k.tape.trans h.tape, k.output.trans h.output, Nat.le_trans h.size k.size, fun i hi hn => (k.block i (Nat.lt_of_lt_of_le hi h.size) hn).trans (h.block i hi hn)⟩
theorem run_setCells {b e : Nat} : ∀ (vs : List Value) (o i : Nat) (l : List Value) (w : World), Blk w b e l → o + i + vs.length ≤ l.length → (∀ u ∈ vs, u.oneCell' = true) →
    ∃ w', (storeCells ⟨b, o, none⟩ vs i).run P w = .ok () w' ∧ Blk w' b e (l.take (o + i) ++ vs ++ l.drop (o + i + vs.length)) ∧ w.grownBy w' (some b) ∧ w'.heap.size = w.heap.size
  | [], o, i, l, w, hB, _, _ => ⟨w, rfl, by simpa using hB, ⟨rfl, rfl, rfl, Nat.le_refl _, fun _ _ _ => rfl⟩, rfl⟩
  | v :: vs, o, i, l, w, hB, hl, h1 => by
    simp only [List.length_cons] at hl
    obtain ⟨q1, q2, q3⟩ := run_setCell (P := P) hB (o := o + i) (by omega) (h1 v List.mem_cons_self)
    obtain ⟨w', r1, r2, r3, r4⟩ := run_setCells vs o (i + 1) (l.set (o + i) v) _ q2 (by simp; omega) (fun u hu => h1 u (List.mem_cons_of_mem _ hu))
    refine ⟨w', ?_, ?_, grownBy_trans q3 r3, by rw [r4]; simp⟩
    · simp only [storeCells, Sem.run_bind, Addr.add_lit, q1, Result.andThen_ok]
      exact r1
    · have hlt : o + i < l.length := by omega
      have e1 : (l.set (o + i) v).take (o + (i + 1)) = l.take (o + i) ++ [v] := by
        rw [show o + (i + 1) = (o + i) + 1 by omega, List.take_add_one, List.take_set_of_le (Nat.le_refl _)]
        simp [hlt]
      have e2 : (l.set (o + i) v).drop (o + (i + 1) + vs.length) = l.drop (o + i + (v :: vs).length) := by
        rw [List.drop_set_of_lt (by omega)]; congr 1; simp; omega
      rw [e1, e2] at r2
      simpa [List.append_assoc] using r2

theorem sr_store {t : TypeId} {x y : Operand} {b o z : Nat} {e : TypeId} {u : Value} {l vs : List Value} (hb : Nat.beq (clOf cl k) 2 = true) (hs : tySize P t = some z) (hx : Ev n σ True x (.pointer (some ⟨b, o, none⟩))) (hy : Ev n σ True y u)
    (hu : u.cells = vs.toArray) (hz : vs.length = z) (hB : Blk w b e l) (hfit : Nat.ble (o + vs.length) l.length = true) (h1 : onesB vs = true)
    (h : ∀ w1, w.grownBy w1 (some b) → w1.heap.size = w.heap.size → Blk w1 b e (l.take o ++ vs ++ l.drop (o + vs.length)) → SR P Z ops cl lv W0 n K (k + 1) rest σ w1) :
    SR P Z ops cl lv W0 n K k (⟨none, .store t x y, ty, pos, after, none⟩ :: rest) σ w := by
  obtain ⟨w1, r1, r2, r3, r4⟩ := run_setCells (P := P) vs o 0 l w hB (by have := Nat.le_of_ble_eq_true hfit; omega) (ones_of h1)
  refine sr_skip hb (w' := w1) (fun d pos after g a ha _ => ?_) (h w1 r3 r4 (by simpa using r2))
  unfold tySize at hs
  obtain ⟨i, hi, hi2⟩ := Option.map_eq_some_iff.1 hs
  have hsz : (sizeOf t).run P w = .ok vs.length w := by simp [sizeOf, typeInfo, hi, hi2, hz]
  simp [execOp, hx a ha trivial, hy a ha trivial, Instr.storeAt, Instr.sureAddr, storeVar, hsz, hu, r1]

theorem sr_store_all {t : TypeId} {x y : Operand} {b z : Nat} {e : TypeId} {u : Value} {l vs : List Value} (hb : Nat.beq (clOf cl k) 2 = true) (hs : tySize P t = some z) (hx : Ev n σ True x (.pointer (some ⟨b, 0, none⟩))) (hy : Ev n σ True y u)
    (hu : u.cells = vs.toArray) (hz : vs.length = z) (hB : Blk w b e l) (hfit : Nat.beq vs.length l.length = true) (h1 : onesB vs = true)
    (h : ∀ w1, w.grownBy w1 (some b) → w1.heap.size = w.heap.size → Blk w1 b e vs → SR P Z ops cl lv W0 n K (k + 1) rest σ w1) :
    SR P Z ops cl lv W0 n K k (⟨none, .store t x y, ty, pos, after, none⟩ :: rest) σ w := by
  have hf := Nat.eq_of_beq_eq_true hfit
  refine sr_store hb hs hx hy hu hz hB (by rw [Nat.zero_add, hf]; exact Nat.ble_self_eq_true _) h1 fun w1 h2 h3 h4 => h w1 h2 h3 ?_
  rw [Nat.zero_add, hf, List.drop_length, List.take_zero, List.nil_append, List.append_nil] at h4
  exact h4
theorem sr_store_one {t : TypeId} {x y : Operand} {b o : Nat} {e : TypeId} {u v : Value} {l : List Value} (hb : Nat.beq (clOf cl k) 2 = true) (hs : tySize P t = some 1) (hx : Ev n σ True x (.pointer (some ⟨b, o, none⟩))) (hy : Ev n σ True y u)
    (hu : u.cells = #[v]) (hB : Blk w b e l) (hfit : Nat.blt o l.length = true) (h1 : v.oneCell' = true)
    (h : ∀ w1, w.grownBy w1 (some b) → w1.heap.size = w.heap.size → Blk w1 b e (l.set o v) → SR P Z ops cl lv W0 n K (k + 1) rest σ w1) :
    SR P Z ops cl lv W0 n K k (⟨none, .store t x y, ty, pos, after, none⟩ :: rest) σ w := by
  have hf : o < l.length := Nat.le_of_ble_eq_true hfit
  refine sr_store (vs := [v]) hb hs hx hy hu rfl hB (Nat.ble_eq ▸ hf) (by simp [onesB, h1]) fun w1 h2 h3 h4 => h w1 h2 h3 ?_
  have e1 : l.set o v = l.take o ++ [v] ++ l.drop (o + [v].length) := by
    rw [List.set_eq_take_append_cons_drop, if_pos hf]; simp
  rw [e1]; exact h4

theorem sr_append {t e z by_ base m q q' : Nat} {x y : Operand} {s zv : Value} {xs news : List Value} {b' o' : Nat} (hb : (Nat.beq (clOf cl k) 2 && Nat.blt d n) = true) (ht : tyElem P t = some (e, z, by_)) (hzv : zeroOf P e = some zv)
    (hzs : zv.cells.size = z) (hz0 : 0 < z) (hx : Ev n σ True x s) (hown : w.ownsRow base e z s m xs) (hy : Ev n σ True y (.slice (some ⟨b', o', none⟩) q q')) (hl : news.length = q * z) (hn : RowAt w b' o' news) (h1 : onesB news = true)
    (h63 : m + q ≤ maxLen) (hby : (m + q) * by_ ≤ 140737488355328) (hbase : base ≤ w.heap.size)
    (h : ∀ a' c' w', w'.ownsRow base e z (.slice a' (m + q) c') (m + q) (xs ++ news) → w.grownBy w' s.ownBlock → ((Value.slice a' (m + q) c').ownBlock = s.ownBlock ∨ (Value.slice a' (m + q) c').ownBlock = some w.heap.size) → SR P Z ops cl lv W0 n K (k + 1) rest ((d, True, .slice a' (m + q) c') :: σ) w') :
    SR P Z ops cl lv W0 n K k (⟨some d, .call { callee := .builtin .append, args := #[x, y], argTypes := #[t, t] }, ty, pos, after, none⟩ :: rest) σ w := by
  obtain ⟨hu, i, hi, hsz, hbyi⟩ := underlying_sl ht
  obtain ⟨i', hi', hz'⟩ := zero_info hzv
  obtain rfl : i = i' := Option.some.inj (hi.symm.trans hi')
  simp only [Bool.and_eq_true] at hb
  have hc := Nat.eq_of_beq_eq_true hb.1
  obtain ⟨s', w', r1, r2, r3, _, r5⟩ := run_append_own_at (P := P) w base t ty e i zv z by_ hu hi hz' hsz hbyi hzs hz0 s m xs hown ⟨b', o', none⟩ q q' news hl (fun j u hj => by rw [Addr.add_lit]; exact hn j u hj) (ones_of h1) h63 hby hbase
  obtain ⟨a', c', hs'⟩ : ∃ a' c', s' = .slice a' (m + q) c' := by
    rcases r2.2 with ⟨q1, q2⟩ | ⟨g, cap, cur, q1, _⟩
    · exact ⟨none, 0, by rw [q1, q2]⟩
    · exact ⟨_, cap, q1⟩
  subst hs'
  refine sr_val (w' := w') (by rw [hc, hb.2]; rfl) (fun d pos after g a ha _ => ?_) (fun hh => by omega) (h a' c' w' r2 r3 r5)
  simp only [execOp, resolve, invoke, builtin, Sem.run_bind, Sem.run_pure, Result.andThen_ok, List.map_toArray, List.map_cons, List.map_nil, hx a ha trivial, hy a ha trivial, r1]
end

/-! ## Code -/
/-- What is asked where a piece of code ends. -/
def Qof (N : Act → World → Prop) (X : List (Nat × (Act → World → Prop))) (T : Act → World → Prop) : Exit → Act → World → Prop
  | .normal, a, w => N a w
  | .ret, a, w => T a w
  | .exit id, a, w => match X.lookup id with | some k => k a w | none => False
  | _, _, _ => False

def SC (P : Program) (n : Nat) (c : Code) (N : Act → World → Prop) (X : List (Nat × (Act → World → Prop))) (T : Act → World → Prop) (σ : List Ent) (w : World) : Prop := ∀ a, Kn n σ a → c.wp P (Qof N X T) a w

section
variable {P : Program} {n : Nat} {N T : Act → World → Prop} {X : List (Nat × (Act → World → Prop))} {σ : List Ent} {w : World}

theorem sc_sub {c : Code} (τ : List Ent) (hs : Sub τ σ) (h : SC P n c N X T τ w) : SC P n c N X T σ w := fun a ha => h a (ha.sub hs)
theorem sc_seq {x y : Code} (h : ∀ K : Act → World → Prop, (∀ τ u, SC P n y N X T τ u → ∀ a, Kn n τ a → K a u) → SC P n x K X T σ w) : SC P n (.seq x y) N X T σ w := fun a ha => by
  refine wp_seq (Code.wp_mono (fun e a w q => ?_) (h (fun a w => y.wp P (Qof N X T) a w) (fun τ u hy a ha => hy a ha) a ha))
  cases e <;> exact q
theorem sc_skip (h : ∀ a, Kn n σ a → N a w) : SC P n .skip N X T σ w := fun a ha => wp_skip (h a ha)
theorem sc_ret (h : ∀ a, Kn n σ a → T a w) : SC P n .ret N X T σ w := fun a ha => wp_ret (h a ha)
theorem sc_exit {id : Nat} {k : Act → World → Prop} (hk : X.lookup id = some k) (h : ∀ a, Kn n σ a → k a w) : SC P n (.exit id) N X T σ w := fun a ha => wp_exit (by
  show match X.lookup id with | some k => k a w | none => False
  rw [hk]; exact h a ha)
theorem sc_block {id : Nat} {c : Code} (h : SC P n c N ((id, N) :: X) T σ w) : SC P n (.block id c) N X T σ w := fun a ha => by
  refine wp_block (Code.wp_mono (fun e a w q => ?_) (h a ha))
  cases e with
  | exit id' =>
    simp only [Exit.inBlock]
    by_cases he : id' = id
    · subst he
      rw [if_pos rfl]
      simpa [Qof, List.lookup] using q
    · rw [if_neg he]
      simp only [Qof] at q ⊢
      rw [List.lookup_cons] at q
      have : (id' == id) = false := by simpa using he
      rw [this] at q
      exact q
  | _ => exact q
theorem sc_cond {x : Operand} {b : Bool} {p q : Code} (hx : Ev n σ True x (.bool b)) (h1 : b = true → SC P n p N X T σ w) (h2 : b = false → SC P n q N X T σ w) : SC P n (.cond x p q) N X T σ w := fun a ha =>
  wp_cond_split (hx a ha trivial) (fun h => h1 h a ha) (fun h => h2 h a ha)
theorem sc_true {x : Operand} {p q : Code} (hx : Ev n σ True x (.bool true)) (h1 : SC P n p N X T σ w) : SC P n (.cond x p q) N X T σ w := sc_cond hx (fun _ => h1) (fun h => by cases h)
theorem sc_false {x : Operand} {p q : Code} (hx : Ev n σ True x (.bool false)) (h1 : SC P n q N X T σ w) : SC P n (.cond x p q) N X T σ w := sc_cond hx (fun h => by cases h) (fun _ => h1)
/-- 'if t { } else { t = .. }': t is one or the other. -/
theorem sc_or {t : Nat} {g : Bool} {y : Code} {b0 : Bool} (τ : List Ent) (hs : Sub ((t, True, .bool g) :: τ) σ) (hx : look σ t = some (True, .bool g))
    (hy : g = false → SC P n y (fun a w' => Kn n ((t, True, .bool b0) :: τ) a ∧ w' = w) X T σ w) (hN : ∀ a, Kn n ((t, True, .bool (g || b0)) :: τ) a → N a w) :
    SC P n (.cond (.tmp t) .skip y) N X T σ w := by
  refine sc_cond (ev_t hx) (fun hg => ?_) (fun hg => ?_)
  · subst hg
    exact sc_skip fun a ha => hN a (by simpa using ha.sub hs)
  · intro a ha
    refine Code.wp_mono (fun e a' w' q => ?_) (hy hg a ha)
    cases e with
    | normal => obtain ⟨q1, rfl⟩ := q; subst hg; exact hN a' (by simpa using q1)
    | _ => exact q
/-- A region in the order of the text. -/
theorem sc_text {id : Nat} {l : List Oper} (cl : List Nat) (h : SR P NoP l cl [] w n N 0 l σ w) : SC P n (.region id l.toArray false) N X T σ w := fun a ha => by
  have h1 := h (fun j o ho => by simpa using ho) a ha
  have e : lvOf [] = fun _ => true := by funext i; simp [lvOf]
  rw [e] at h1
  have h2 : RS P NoP l.toArray (clOf cl) (fun _ => true) w (fun a w => (Qof N X T) .normal a w) (List.range l.toArray.size) a w := by
    rw [List.range_eq_range']; simpa [Qof] using h1
  exact wp_text h2
/-- A region that draws its order. -/
theorem sc_draw {id : Nat} {l : List Oper} (cl : List Nat) (lv : List Bool) (ms : List Nat) (hm : P.follows .mixedOrders = true) (hok : okB l cl lv ms = true)
    (h : SR P NoP l cl lv w.drew n N 0 l σ w.drew) : SC P n (.region id l.toArray true) N X T σ w := fun a ha => by
  have h1 := h (fun j o ho => by simpa using ho) a ha
  have h2 : RS P NoP l.toArray (clOf cl) (lvOf lv) w.drew (fun a w => (Qof N X T) .normal a w) (List.range l.toArray.size) a w.drew := by
    rw [List.range_eq_range']; simpa [Qof] using h1
  exact wp_draw (okay_of hok) hm h2

/-- A loop: what holds at its head is a relation I of a state α, whose slots are σf. -/
theorem sc_loop {c : Code} {α : Type} (I : α → World → Prop) (σf : α → List Ent) (μ : α → Nat) (x0 : α) (h0 : I x0 w) (hs : Sub (σf x0) σ)
    (round : ∀ x w, I x w → SC P n c (fun a' w' => ∃ y, Kn n (σf y) a' ∧ I y w' ∧ μ y < μ x) X T (σf x) w) : SC P n (.loop c) N X T σ w := fun a ha => by
  intro b k cs
  have key : ∀ m x a w, μ x = m → Kn n (σf x) a → I x w →
      ∃ e a' w', Qof N X T e a' w' ∧ Arrives P (lone (b.at a (.code c :: .inLoop c :: k)) cs w) b k cs e a' w' := by
    intro m
    induction m using Nat.strongRecOn with
    | _ m ih =>
      intro x a w hm hk hI
      obtain ⟨e, a₁, w₁, hq, harr⟩ := round x w hI a hk b (.inLoop c :: k) cs
      cases e with
      | normal =>
        obtain ⟨y, hk1, hI1, hlt⟩ := hq
        obtain ⟨e₂, a₂, w₂, hq₂, harr₂⟩ := ih (μ y) (hm ▸ hlt) y a₁ w₁ rfl hk1 hI1
        exact ⟨e₂, a₂, w₂, hq₂, .of_steps (Steps.trans harr (.one step_inLoop)) harr₂⟩
      | exit id => exact ⟨.exit id, a₁, w₁, hq, .pass (x := .inLoop c) rfl (fun _ _ => .inl (by simp)) harr⟩
      | goto l => exact hq.elim
      | ret => exact ⟨.ret, a₁, w₁, hq, .pass (x := .inLoop c) rfl (fun _ _ => .inl (by simp)) harr⟩
      | panic ch => exact hq.elim
      | outgrown => exact hq.elim
  obtain ⟨e, a', w', hq, harr⟩ := key _ x0 a w rfl (ha.sub hs) h0
  exact ⟨e, a', w', hq, .of_steps (.one step_loop) harr⟩

/-- A loop whose frame has a part that stays. -/
theorem sc_loop2 {c : Code} {α : Type} (I : α → World → Prop) (σc : List Ent) (σf : α → List Ent) (μ : α → Nat) (x0 : α) (h0 : I x0 w) (hs : Sub (σf x0 ++ σc) σ)
    (round : ∀ x w, I x w → SC P n c (fun a' w' => ∃ y, Kn n (σf y ++ σc) a' ∧ I y w' ∧ μ y < μ x) X T (σf x ++ σc) w) : SC P n (.loop c) N X T σ w :=
  sc_loop I (fun x => σf x ++ σc) μ x0 h0 hs round

/-! ends of a function -/
theorem t_ret0 {fn : Func} {R : Value → World → Prop} (hr : fn.results = #[]) (h : R (.tuple #[]) w) : ∀ a, Kn n σ a → bodyPost P fn (fun e w' => ∃ v, e = .returned v ∧ R v w') .ret a w := fun a ha =>
  bodyPost_ret (results_none hr _ _ _) ha.2.1 ⟨_, rfl, h⟩
theorem t_end0 {fn : Func} {R : Value → World → Prop} (hr : fn.results = #[]) (h : R (.tuple #[]) w) : ∀ a, Kn n σ a → bodyPost P fn (fun e w' => ∃ v, e = .returned v ∧ R v w') .normal a w := fun a ha =>
  bodyPost_end (results_none hr _ _ _) ha.2.1 ⟨_, rfl, h⟩
theorem t_ret1 {fn : Func} {R : Value → World → Prop} {t : Nat} {v : Value} (hr : fn.results = #[.tmp t]) (hl : look σ t = some (True, v)) (h : R v w) : ∀ a, Kn n σ a → bodyPost P fn (fun e w' => ∃ v, e = .returned v ∧ R v w') .ret a w := fun a ha =>
  bodyPost_ret (results_tmp hr _ _ _) ha.2.1 ⟨_, rfl, by have := ha.at_ hl trivial; simp [this]; exact h⟩
def resOf (us : List Value) : Value := if h : us.toArray.size = 1 then us.toArray[0] else .tuple us.toArray
/-- Several results, each in a slot. -/
theorem t_rets {fn : Func} {R : Value → World → Prop} {ts : List Nat} {vs : List Value} (hr : fn.results = (ts.map ResultVar.tmp).toArray) (h2 : Nat.beq ts.length 1 = false) (hl : ts.map (look σ) = vs.map (fun v => some (True, v))) (h : R (.tuple vs.toArray) w) :
    ∀ a, Kn n σ a → bodyPost P fn (fun e w' => ∃ v, e = .returned v ∧ R v w') .ret a w := fun a ha => by
  refine bodyPost_ret (v := .tuple vs.toArray) ?_ ha.2.1 ⟨_, rfl, h⟩
  have hvs : ∀ (ts : List Nat) (vs : List Value), ts.map (look σ) = vs.map (fun v => some (True, v)) → ts.map (fun t => a.tmps.getD t undef) = vs := by
    intro ts
    induction ts with
    | nil => intro vs h; cases vs with
      | nil => rfl
      | cons => simp at h
    | cons t ts ih =>
      intro vs h
      cases vs with
      | nil => simp at h
      | cons v vs =>
        simp only [List.map_cons, List.cons.injEq] at h
        have := ha.at_ h.1 trivial
        rw [List.map_cons, ih vs h.2]
        simp [this]
  have hrun : ∀ (ts : List Nat), (ts.mapM (fun t => (pure (a.tmps.getD t undef) : Sem Value))).run P w = .ok (ts.map fun t => a.tmps.getD t undef) w := by
    intro ts
    induction ts with
    | nil => rfl
    | cons t ts ih =>
      rw [List.mapM_cons]
      simp only [Sem.run_bind, Sem.run_pure, Result.andThen_ok] at ih ⊢
      rw [ih]; rfl
  have hres : (results fn a.tmps).run P w = .ok (resOf (ts.map fun t => a.tmps.getD t undef)) w := by
    unfold results
    rw [hr, Array.mapM_eq_mapM_toList]
    simp only [Sem.run_bind, Sem.run_map, List.mapM_map]
    have := hrun ts
    simp only [Function.comp_def]
    rw [this]
    rfl
  rw [hres, hvs ts vs hl]
  have hlen : vs.length = ts.length := by have := congrArg List.length hl; simpa using this.symm
  unfold resOf
  rw [dif_neg (by simp only [List.size_toArray, hlen]; intro he; rw [he] at h2; simp at h2)]

def argsK : Nat → List Value → List Ent
  | _, [] => []
  | k, v :: vs => (k, True, v) :: argsK (k + 1) vs
theorem argsK_spec : ∀ (vs : List Value) (k t : Nat) (c : Prop) (v : Value), look (argsK k vs) t = some (c, v) → c = True ∧ k ≤ t ∧ vs[t - k]? = some v
  | [], _, _, _, _, h => by simp [argsK, look] at h
  | u :: vs, k, t, c, v, h => by
    unfold argsK look at h
    cases hq : Nat.beq k t with
    | true =>
      rw [hq] at h
      obtain rfl := Nat.eq_of_beq_eq_true hq
      simp only [cond_true] at h
      injection h with h
      injection h with e1 e2
      subst e2
      exact ⟨e1.symm, Nat.le_refl _, by simp⟩
    | false =>
      rw [hq] at h
      obtain ⟨h1, h2, h3⟩ := argsK_spec vs (k + 1) t c v h
      refine ⟨h1, by omega, ?_⟩
      rw [show t - k = (t - (k + 1)) + 1 by omega]
      simpa using h3
/-- Entering a function. -/
theorem ret_of_sc {f : FuncId} {fn : Func} {c : Code} {args : List Value} {R : Value → World → Prop} {m : Nat} (hf : P.funcs[f]? = some fn) (hb : fn.body = some c) (hm : args.length + (fn.ntmps - args.length) = m)
    (σ0 : List Ent) (hs : Sub σ0 (argsK 0 args))
    (hh : SC P m c (fun a w => bodyPost P fn (fun e w' => ∃ v, e = .returned v ∧ R v w') .normal a w) [] (fun a w => bodyPost P fn (fun e w' => ∃ v, e = .returned v ∧ R v w') .ret a w)
      σ0 w) : Ret P f args.toArray w R := by
  unfold Ret
  refine calls_of_wp hf hb (Code.wp_mono (fun e a w q => ?_) (hh _ (Kn.sub (σ := argsK 0 args) ?_ hs)))
  · cases e with
    | normal => exact q
    | ret => exact q
    | _ => exact q.elim
  · refine ⟨by simp [← hm], rfl, fun t c' v hl => ?_⟩
    obtain ⟨rfl, _, h3⟩ := argsK_spec args 0 t c' v hl
    refine ⟨fun _ => ?_, fun hn => absurd trivial hn⟩
    rw [Nat.sub_zero] at h3
    have hlt : t < args.length := (List.getElem?_eq_some_iff.1 h3).1
    simp [Array.getElem?_append, hlt, h3]
    simpa [hlt] using h3
end
end Go.Rk
