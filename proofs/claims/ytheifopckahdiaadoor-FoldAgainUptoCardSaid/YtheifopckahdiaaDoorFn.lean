/- Functions as values; slices made under a guard. Conditions: none. -/
import Derived.Test.YtheifopckahdiaaDoorNest
import Derived.Test.YtheifopckahdiaaDoorStr
namespace Go.Rk
open Go Go.RowKit
set_option linter.unusedVariables false
/-- A function value that tests a kind. -/
def FnV (P : Program) (q : Int → Bool) (v : Value) (w : World) : Prop := ∃ f fs cs, v = .func (.func f) fs cs ∧ goFn P f = true ∧ ∀ (k : Int) (w' : World), G w w' → Ret P f (fs ++ #[.int .i64 k] ++ cs) w' fun r w'' => r = .bool (q k) ∧ G w' w''
theorem FnV.grow {P : Program} {q : Int → Bool} {v : Value} {w w' : World} (h : FnV P q v w) (g : G w w') : FnV P q v w' := by
  obtain ⟨f, fs, cs, rfl, h1, h2⟩ := h
  exact ⟨f, fs, cs, rfl, h1, fun k w'' g' => h2 k w'' (g.trans g')⟩
/-- A plain function as a value. -/
theorem fnV_of {P : Program} {q : Int → Bool} {f : Nat} (hgo : goFn P f = true) (h : ∀ (k : Int) (w : World), Ret P f #[.int .i64 k] w fun r w' => r = .bool (q k) ∧ G w w') (w : World) : FnV P q (.func (.func f) #[] #[]) w :=
  ⟨f, #[], #[], rfl, hgo, fun k w' _ => by simpa using h k w'⟩
section
variable {P : Program} {Z : List PanicEntry → Act → World → Prop} {ops : List Oper} {cl : List Nat} {lv : List Bool} {W0 : World} {n : Nat} {K : Act → World → Prop} {k : Nat} {rest : List Oper} {σ : List Ent} {w : World} {d : Nat} {ty : TypeId} {pos : String} {after : Array Edge}
/-- A guarded operation that makes memory. -/
theorem sr_valg {g t : Nat} {want b : Bool} {c0 : Prop} {op : Op} {v : Value} {w' : World} (hb : (!Nat.beq (clOf cl k) 0 && !Nat.beq (clOf cl k) 3 && Nat.blt d n) = true)
    (hgd : ((ops.toArray[g]?).bind (·.dst)) = some t) (hlk : look σ t = some (c0, .bool b)) (hr : RunV P n σ (c0 ∧ b = want) w op ty v w') (hg : G w w')
    (h : (c0 ∧ b = want) → SR P Z ops cl lv W0 n K (k + 1) rest ((d, c0 ∧ b = want, v) :: σ) w') (h' : ¬ (c0 ∧ b = want) → SR P Z ops cl lv W0 n K (k + 1) rest ((d, c0 ∧ b = want, v) :: σ) w) :
    SR P Z ops cl lv W0 n K k (⟨some d, op, ty, pos, after, some (g, want)⟩ :: rest) σ w := fun hl a ha => by
  obtain ⟨h0, h1⟩ := shift_ops hl
  simp only [Bool.and_eq_true, Bool.not_eq_true'] at hb
  rw [List.length_cons, List.range'_succ]
  have hw := want_of (op := op) (ty := ty) (pos := pos) (after := after) (want := want) (d := some d) hgd hlk ha
  refine ⟨_, h0, ?_⟩
  rw [if_neg (fun he => by rcases he with he | he <;> rw [he] at hb <;> simp at hb)]
  by_cases hh : c0 ∧ b = want
  · rw [if_pos (hw.2 hh)]
    exact .inl ⟨v, w', hr _ _ _ _ a ha hh, fun _ => hg, h hh h1 _ (ha.put hb.2 (fun _ => rfl) (fun hn => absurd hh hn))⟩
  · rw [if_neg (fun hq => hh (hw.1 hq))]
    exact h' hh h1 _ (ha.put hb.2 (fun hq => absurd hq hh) (fun _ => rfl))
theorem sr_buildSliceg {g t0 : Nat} {want bb : Bool} {c0 : Prop} {t e z by_ m : Nat} {ps : Array (Nat × Operand)} {vs : List (Nat × Value)} {zv : Value} (l : List Value) (hb : (!Nat.beq (clOf cl k) 0 && !Nat.beq (clOf cl k) 3 && Nat.blt d n) = true) (hgd : ((ops.toArray[g]?).bind (·.dst)) = some t0) (hlk : look σ t0 = some (c0, .bool bb))
    (ht : tyElem P t = some (e, z, by_)) (hz : zeroOf P e = some zv)
    (hx : EvParts n σ (c0 ∧ bb = want) ps vs) (hm : (Nat.ble (m * z) 16777216 && !Nat.beq (m * z) 0 && Nat.beq vs.length m) = true) (hf : fillS z 0 vs = some l)
    (h : ∀ b w1, G w w1 → (c0 ∧ bb = want → Blk w1 b e l) → SR P Z ops cl lv W0 n K (k + 1) rest ((d, c0 ∧ bb = want, .slice (some ⟨b, 0, none⟩) m m) :: σ) w1) :
    SR P Z ops cl lv W0 n K k (⟨some d, .buildSlice t m ps, ty, pos, after, some (g, want)⟩ :: rest) σ w := by
  obtain ⟨hu, i, hi, hsz, _⟩ := underlying_sl ht
  obtain ⟨i', hi', hz'⟩ := zero_info hz
  obtain rfl : i = i' := Option.some.inj (hi.symm.trans hi')
  simp only [Bool.and_eq_true, Bool.not_eq_true'] at hm
  have hm1 : ¬ (m * z > 2 ^ 24) := by have := Nat.le_of_ble_eq_true hm.1.1; omega
  have hm2 : ¬ (m * z = 0) := by intro he; rw [he] at hm; simp at hm
  have hvl := Nat.eq_of_beq_eq_true hm.2
  have hfill : Instr.fill (fun i => some (i * z, z)) ((Array.range (m * z)).map (zv.cells[· % zv.cells.size]!)) vs = some l.toArray := by
    have h1 := fillS_list z vs 0 [] ((Array.range (m * z)).map (zv.cells[· % zv.cells.size]!)).toList l hf (by simp) (by simp [hvl]) (by simp)
    have := fill_list _ _ _ _ h1
    rwa [Array.toArray_toList] at this
  refine sr_valg hb hgd hlk (w' := w.alloc (.cells l.toArray e)) (v := .slice (some ⟨w.heap.size, 0, none⟩) m m) (fun d pos after g a ha hc => ?_) (new_alloc w e l).g (fun hc => h _ _ (new_alloc w e l).g (fun _ => (new_alloc w e l).blk)) (fun hc => h _ _ (G.refl w) (fun hq => absurd hq hc))
  have hx' := hx a ha hc
  simp only [execOp, Instr.buildSlice, Sem.run_bind, run_underlying hu, Result.andThen_ok, sizeOf, typeInfo, run_program, hi, Sem.run_pure, hsz, if_neg hm1, if_neg hm2, zeroValue, hz']
  rw [hx', hfill]
  simp [newRow]
end
section
variable {P : Program} {n : Nat} {σ : List Ent} {c : Prop} {wb : World} {ty : TypeId} {v : Value}
theorem rd_sl_from0 {t e z by_ : Nat} {x y : Operand} {o : Option Addr} {m q : Nat} {k : IntKind} (ht : tyElem P t = some (e, z, by_)) (h : Ev n σ c x (.slice o m q)) (h' : Ev n σ c y (.int k 0)) :
    Rd P n σ c wb (.slice t x (some y) none none) ty (.slice o m q) := fun d pos after gd a ha hc w1 _ => by
  obtain ⟨hu, inf, hin, hz, _⟩ := underlying_sl ht
  have e2 : o.map (fun b => Addr.add b 0) = o := by cases o <;> simp [Addr.add]
  simp only [execOp, h a ha hc, h' a ha hc, Instr.sliceAt, Option.map_some, Option.map_none, Sem.run_bind, run_underlying hu, Result.andThen_ok]
  simp [Instr.slice, run_underlying hu, Instr.sliceBounds, Instr.sliceBound, asIntOf, run_size hin, e2]
end
end Go.Rk
