/- The engine's later rules: comparing structs and nil, arrays, slices of slices. Conditions: none. -/
import Derived.Test.YtheifopckahdiaaDoorMem
import Derived.Laws.StructEq
import Derived.Stop.IfaceNil
import Derived.Laws.Pointers
namespace Go.Rk
open Go Go.RowKit
set_option linter.unusedVariables false
section
variable {P : Program} {n : Nat} {σ : List Ent} {c : Prop} {wb : World} {ty : TypeId} {v : Value}

/-! structs of plain cells, compared -/
def flatKind (P : Program) (t : TypeId) : Option Nat := match P.underlying t with
  | some (.int _) => some 0
  | some .string => some 1
  | some .bool => some 2
  | _ => none
def flatFs (P : Program) : Nat → List Field → Option (List Nat)
  | _, [] => some []
  | k, f :: fs => if Nat.beq f.offset k && f.name != "_" then match flatKind P f.type, flatFs P (k + 1) fs with
      | some a, some l => some (a :: l)
      | _, _ => none
    else none
def tyFlat (P : Program) (t : TypeId) : Option (List Nat) := match P.underlying t with
  | some (.struct fs) => if P.stoodInHeld t = false ∧ P.eqGuardType P.depth t = false then flatFs P 0 fs.toList else none
  | _ => none
def eqL : List Nat → List Value → List Value → Option Bool
  | [], [], [] => some true
  | 0 :: ks, .int k a :: l, .int k' b :: l' => if k = k' then match eqL ks l l' with | some r => some (decide (a = b) && r) | none => none else none
  | 1 :: ks, .string a :: l, .string b :: l' => match eqL ks l l' with | some r => some (decide (a.data.toList = b.data.toList) && r) | none => none
  | 2 :: ks, .bool a :: l, .bool b :: l' => match eqL ks l l' with | some r => some (a == b && r) | none => none
  | _, _, _ => none
theorem part_one {t : TypeId} (ht : tyOne P t = true) {cs : Array Value} {o : Nat} {v : Value} (hv : cs[o]? = some v) (w : World) : (part t cs o).run P w = .ok v w := by
  have : (isAgg t).run P w = .ok false w := by
    unfold tyOne at ht
    split at ht <;> try (cases ht; done)
    rename_i d hd1 hd2 hd
    simp only [isAgg, Sem.run_bind, run_underlying hd, Result.andThen_ok]
    cases d <;> simp_all
  simp [part, this, hv]
theorem flat_one {t : TypeId} {k : Nat} (h : flatKind P t = some k) : tyOne P t = true := by
  unfold flatKind at h
  unfold tyOne
  split at h <;> simp_all
theorem eqL_0 {u u' : Value} {b : Bool} (he : eqL [0] [u] [u'] = some b) : ∃ k a a', u = .int k a ∧ u' = .int k a' ∧ b = decide (a = a') := by
  unfold eqL at he
  split at he
  · rename_i h1 _ _; cases h1
  · rename_i h1 h2 h3
    injection h2 with h2 h2'; injection h3 with h3 h3'; injection h1 with h0 h1'; subst h2' h3' h2 h3 h1'
    split at he
    · rename_i hk; subst hk
      simp [eqL] at he
      exact ⟨_, _, _, rfl, rfl, he.symm⟩
    · cases he
  · rename_i h1 _ _; cases h1
  · rename_i h1 _ _; cases h1
  · cases he
theorem eqL_1 {u u' : Value} {b : Bool} (he : eqL [1] [u] [u'] = some b) : ∃ a a', u = .string a ∧ u' = .string a' ∧ b = decide (a.data.toList = a'.data.toList) := by
  unfold eqL at he
  split at he
  · rename_i h1 _ _; cases h1
  · rename_i h1 _ _; cases h1
  · rename_i h1 h2 h3
    injection h2 with h2 h2'; injection h3 with h3 h3'; injection h1 with h0 h1'; subst h2' h3' h2 h3 h1'
    simp only [eqL, Bool.and_true, Option.some.injEq] at he
    exact ⟨_, _, rfl, rfl, he.symm⟩
  · rename_i h1 _ _; cases h1
  · cases he
theorem eqL_2 {u u' : Value} {b : Bool} (he : eqL [2] [u] [u'] = some b) : ∃ a a', u = .bool a ∧ u' = .bool a' ∧ b = (a == a') := by
  unfold eqL at he
  split at he
  · rename_i h1 _ _; cases h1
  · rename_i h1 _ _; cases h1
  · rename_i h1 _ _; cases h1
  · rename_i h1 h2 h3
    injection h2 with h2 h2'; injection h3 with h3 h3'; injection h1 with h0 h1'; subst h2' h3' h2 h3 h1'
    simp only [eqL, Bool.and_true, Option.some.injEq] at he
    exact ⟨_, _, rfl, rfl, he.symm⟩
  · cases he
theorem flat_cell {t : TypeId} {k d : Nat} (h : flatKind P t = some k) {u u' : Value} {b : Bool} (he : eqL [k] [u] [u'] = some b) (w : World) : (Op.equalIn (d + 1) t u u').run P w = .ok b w := by
  unfold flatKind at h
  split at h <;> try (cases h; done)
  · rename_i k0 hu
    injection h with h; subst h
    obtain ⟨k, a, a', rfl, rfl, rfl⟩ := eqL_0 he
    rw [run_equalIn_int w d t _ k0 _ _ hu]
    congr 1
  · rename_i hu
    injection h with h; subst h
    obtain ⟨a, a', rfl, rfl, rfl⟩ := eqL_1 he
    rw [run_equalIn_string w d t _ _ hu]
    congr 1
    rw [ByteArray.toList_eq, ByteArray.toList_eq]
    rw [Bool.eq_iff_iff]; simp
  · rename_i hu
    injection h with h; subst h
    obtain ⟨a, a', rfl, rfl, rfl⟩ := eqL_2 he
    rw [run_equalIn_bool' w d t _ _ hu]
theorem eqL_cons {k : Nat} {ks : List Nat} {l l' : List Value} {b : Bool} (h : eqL (k :: ks) l l' = some b) : ∃ u u' r r' b1 b2, l = u :: r ∧ l' = u' :: r' ∧ eqL [k] [u] [u'] = some b1 ∧ eqL ks r r' = some b2 ∧ b = (b1 && b2) := by
  unfold eqL at h
  split at h
  · rename_i h1; cases h1
  · rename_i h1; injection h1 with h1 h1'; subst h1 h1'
    split at h
    · rename_i hk; subst hk
      split at h
      · rename_i r hr; injection h with h; exact ⟨_, _, _, _, _, r, rfl, rfl, by simp [eqL], hr, h.symm⟩
      · cases h
    · cases h
  · rename_i h1; injection h1 with h1 h1'; subst h1 h1'
    split at h
    · rename_i r hr; injection h with h; exact ⟨_, _, _, _, _, r, rfl, rfl, by simp [eqL], hr, h.symm⟩
    · cases h
  · rename_i h1; injection h1 with h1 h1'; subst h1 h1'
    split at h
    · rename_i r hr; injection h with h; exact ⟨_, _, _, _, _, r, rfl, rfl, by simp [eqL], hr, h.symm⟩
    · cases h
  · cases h
theorem flat_run (d : Nat) : ∀ (fs : List Field) (ks : List Nat) (k : Nat) (l l' : List Value) (pre pre' : List Value) (b : Bool), flatFs P k fs = some ks → pre.length = k → pre'.length = k → eqL ks l l' = some b →
    ∀ w, (Op.eqFields (d + 1) (pre ++ l).toArray (pre' ++ l').toArray fs).run P w = .ok b w
  | [], ks, k, l, l', pre, pre', b, hf, h1, h2, he, w => by
    injection hf with hf; subst hf
    unfold eqL at he
    split at he <;> simp_all [Op.eqFields]
  | f :: fs, ks, k, l, l', pre, pre', b, hf, h1, h2, he, w => by
    unfold flatFs at hf
    split at hf
    · rename_i hc
      simp only [Bool.and_eq_true, bne_iff_ne, ne_eq] at hc
      have hc := And.intro (Nat.eq_of_beq_eq_true hc.1) hc.2
      split at hf
      · rename_i a ls ha hls
        injection hf with hf; subst hf
        obtain ⟨u, u', r, r', b1, b2, rfl, rfl, e1, e2, rfl⟩ := eqL_cons he
        have ho := flat_one ha
        have g1 : (pre ++ u :: r).toArray[f.offset]? = some u := by simp [hc.1, ← h1]
        have g2 : (pre' ++ u' :: r').toArray[f.offset]? = some u' := by simp [hc.1, ← h2]
        have ih := flat_run d fs ls (k + 1) r r' (pre ++ [u]) (pre' ++ [u']) b2 hls (by simp [h1]) (by simp [h2]) e2 w
        rw [List.append_assoc, List.append_assoc, List.singleton_append, List.singleton_append] at ih
        simp only [Op.eqFields, if_pos hc.2, Sem.run_bind, part_one ho g1, part_one ho g2, Result.andThen_ok, flat_cell ha e1]
        cases b1
        · simp
        · simpa using ih
      · cases hf
    · cases hf
theorem rd_steq {t u : TypeId} {x y : Operand} {ks : List Nat} {l l' : List Value} {b : Bool} (ht : tyFlat P t = some ks) (h : Ev n σ c x (.agg l.toArray)) (h' : Ev n σ c y (.agg l'.toArray)) (he : eqL ks l l' = some b) : Rd P n σ c wb (.binOp .eql t x y u) ty (.bool b) := fun d pos after gd a ha hc w1 _ => by
  unfold tyFlat at ht
  split at ht
  · rename_i fs hfs
    split at ht
    · rename_i hk
      have hfo : P.fieldsOf t = fs := by simp [Program.fieldsOf, hfs]
      have k2 := run_equalIn_struct w1 9999 t l.toArray l'.toArray (by rw [hfo]; exact hfs) hk.1
      have k3 := flat_run 9998 fs.toList ks 0 l l' [] [] b ht rfl rfl he w1
      simp only [List.nil_append] at k3
      rw [hfo, k3] at k2
      simp [execOp, h a ha hc, h' a ha hc, run_eqGuard_agg w1 .eql t x y l.toArray l'.toArray hk.2, run_eql_struct, k2]
    · cases ht
  · cases ht
theorem rd_stne {t u : TypeId} {x y : Operand} {ks : List Nat} {l l' : List Value} {b : Bool} (ht : tyFlat P t = some ks) (h : Ev n σ c x (.agg l.toArray)) (h' : Ev n σ c y (.agg l'.toArray)) (he : eqL ks l l' = some b) : Rd P n σ c wb (.binOp .neq t x y u) ty (.bool (!b)) := fun d pos after gd a ha hc w1 _ => by
  unfold tyFlat at ht
  split at ht
  · rename_i fs hfs
    split at ht
    · rename_i hk
      have hfo : P.fieldsOf t = fs := by simp [Program.fieldsOf, hfs]
      have k2 := run_equalIn_struct w1 9999 t l.toArray l'.toArray (by rw [hfo]; exact hfs) hk.1
      have k3 := flat_run 9998 fs.toList ks 0 l l' [] [] b ht rfl rfl he w1
      simp only [List.nil_append] at k3
      rw [hfo, k3] at k2
      simp [execOp, h a ha hc, h' a ha hc, run_eqGuard_agg w1 .neq t x y l.toArray l'.toArray hk.2, run_neq_struct, k2]
    · cases ht
  · cases ht

/-! an array's element, by value -/
def tyArr1 (P : Program) (t : TypeId) : Option Nat := match P.underlying t with
  | some (.array m e) => if tyOne P e = true ∧ tySize P e = some 1 then some m else none
  | _ => none
theorem rd_aidx {t m : Nat} {x y : Operand} {cs : Array Value} {k : IntKind} {i : Int} {v : Value} (ht : tyArr1 P t = some m) (h : Ev n σ c x (.agg cs)) (h' : Ev n σ c y (.int k i)) (hi : c → 0 ≤ i ∧ i < m) (hv : c → cs[i.toNat]? = some v) :
    Rd P n σ c wb (.index t x y) ty v := fun d pos after gd a ha hc w1 _ => by
  obtain ⟨h0, h1⟩ := hi hc
  unfold tyArr1 at ht
  split at ht
  · rename_i m' e hu
    split at ht
    · rename_i hk
      injection ht with ht; subst ht
      obtain ⟨ho, hz⟩ := hk
      unfold tySize at hz
      cases hi2 : P.info? e with
      | none => rw [hi2] at hz; cases hz
      | some inf =>
        rw [hi2] at hz; injection hz with hz
        have hs : (sizeOf e).run P w1 = .ok 1 w1 := by
          have := hz; simp [sizeOf, typeInfo, run_program, hi2, hz]
        simp [execOp, h a ha hc, h' a ha hc, Instr.index, asIntOf, run_underlying hu, h0, h1, hs, part_one ho (hv hc)]
    · cases ht
  · cases ht

/-! nil -/
def nilV : Value → Bool
  | .nilIface => true
  | _ => false
theorem rd_ieq {t u : TypeId} {x : Operand} {e : Value} (ht : P.isIface t = true) (h : Ev n σ c x e) (he : e = .nilIface ∨ ∃ a b, e = .iface a b) : Rd P n σ c wb (.binOp .eql t x (.const .nilIface) u) ty (.bool (nilV e)) := fun d pos after gd a ha hc w1 _ => by
  rcases he with rfl | ⟨t1, u1, rfl⟩
  · simp [execOp, h a ha hc, eval_const, eqGuard, binOp, Op.equal, Op.maxDepth, run_equalIn_nil_nil_at w1 9999 t ht, nilV]
  · simp [execOp, h a ha hc, eval_const, eqGuard, binOp, Op.equal, Op.maxDepth, run_equalIn_iface_nil w1 9999 t ht, nilV]
theorem rd_ine {t u : TypeId} {x : Operand} {e : Value} (ht : P.isIface t = true) (h : Ev n σ c x e) (he : e = .nilIface ∨ ∃ a b, e = .iface a b) : Rd P n σ c wb (.binOp .neq t x (.const .nilIface) u) ty (.bool (!nilV e)) := fun d pos after gd a ha hc w1 _ => by
  rcases he with rfl | ⟨t1, u1, rfl⟩
  · simp [execOp, h a ha hc, eval_const, eqGuard, binOp, Op.equal, Op.maxDepth, run_equalIn_nil_nil_at w1 9999 t ht, nilV]
  · simp [execOp, h a ha hc, eval_const, eqGuard, binOp, Op.equal, Op.maxDepth, run_equalIn_iface_nil w1 9999 t ht, nilV]
def tyPtr (P : Program) (t : TypeId) : Bool := match P.underlying t with | some (.pointer _) => true | _ => false
theorem underlying_ptr {t : TypeId} (h : tyPtr P t = true) : ∃ e, P.underlying t = some (.pointer e) := by
  unfold tyPtr at h
  split at h
  · rename_i e he; exact ⟨e, he⟩
  · cases h
theorem eq_ptr {t e : TypeId} (he : P.underlying t = some (.pointer e)) (o : Option Addr) (d : Nat) (w : World) : (Op.equalIn (d + 1) t (.pointer o) (.pointer none)).run P w = .ok o.isNone w := by
  cases o <;> simp [Op.equalIn, run_underlying he]
theorem eq_sl {t e : TypeId} (he : P.underlying t = some (.slice e)) (o : Option Addr) (m q : Nat) (d : Nat) (w : World) : (Op.equalIn (d + 1) t (.slice o m q) (.slice none 0 0)).run P w = .ok o.isNone w := by
  cases o <;> simp [Op.equalIn, run_underlying he]
theorem rd_peq {t u : TypeId} {x : Operand} {o : Option Addr} (ht : tyPtr P t = true) (h : Ev n σ c x (.pointer o)) : Rd P n σ c wb (.binOp .eql t x (.const (.pointer none)) u) ty (.bool o.isNone) := fun d pos after gd a ha hc w1 _ => by
  obtain ⟨e, he⟩ := underlying_ptr ht
  simp [execOp, h a ha hc, eval_const, eqGuard_at_pointer, binOp, Op.equal, Op.maxDepth, eq_ptr he o 9999 w1]
theorem rd_pne {t u : TypeId} {x : Operand} {o : Option Addr} (ht : tyPtr P t = true) (h : Ev n σ c x (.pointer o)) : Rd P n σ c wb (.binOp .neq t x (.const (.pointer none)) u) ty (.bool o.isSome) := fun d pos after gd a ha hc w1 _ => by
  obtain ⟨e, he⟩ := underlying_ptr ht
  simp [execOp, h a ha hc, eval_const, eqGuard_at_pointer, binOp, Op.equal, Op.maxDepth, eq_ptr he o 9999 w1]
theorem rd_sleq {t e z by_ : Nat} {u : TypeId} {x : Operand} {o : Option Addr} {m q : Nat} (ht : tyElem P t = some (e, z, by_)) (h : Ev n σ c x (.slice o m q)) : Rd P n σ c wb (.binOp .eql t x (.const (.slice none 0 0)) u) ty (.bool o.isNone) := fun d pos after gd a ha hc w1 _ => by
  obtain ⟨hu, _⟩ := underlying_sl ht
  simp [execOp, h a ha hc, eval_const, eqGuard_at_slice, binOp, Op.equal, Op.maxDepth, eq_sl hu o m q 9999 w1]
theorem rd_slne {t e z by_ : Nat} {u : TypeId} {x : Operand} {o : Option Addr} {m q : Nat} (ht : tyElem P t = some (e, z, by_)) (h : Ev n σ c x (.slice o m q)) : Rd P n σ c wb (.binOp .neq t x (.const (.slice none 0 0)) u) ty (.bool o.isSome) := fun d pos after gd a ha hc w1 _ => by
  obtain ⟨hu, _⟩ := underlying_sl ht
  simp [execOp, h a ha hc, eval_const, eqGuard_at_slice, binOp, Op.equal, Op.maxDepth, eq_sl hu o m q 9999 w1]

/-! slices of slices -/
theorem run_size {e : TypeId} {i : TypeInfo} (hi : P.info? e = some i) (w : World) : (sizeOf e).run P w = .ok i.size w := by simp [sizeOf, typeInfo, run_program, hi]
theorem rd_sl_to {t e z by_ : Nat} {x y : Operand} {o : Option Addr} {m q : Nat} {k : IntKind} {j : Int} (ht : tyElem P t = some (e, z, by_)) (h : Ev n σ c x (.slice o m q)) (h' : Ev n σ c y (.int k j)) (hi : c → 0 ≤ j ∧ j ≤ q) :
    Rd P n σ c wb (.slice t x none (some y) none) ty (.slice o j.toNat q) := fun d pos after gd a ha hc w1 _ => by
  obtain ⟨hu, i, hin, hz, _⟩ := underlying_sl ht
  have e1 := hi hc
  have e2 : o.map (fun b => Addr.add b 0) = o := by cases o <;> simp [Addr.add]
  simp only [execOp, h a ha hc, h' a ha hc, Instr.sliceAt, Option.map_some, Option.map_none, Sem.run_bind, run_underlying hu, Result.andThen_ok]
  simp [Instr.slice, run_underlying hu, Instr.sliceBounds, Instr.sliceBound, asIntOf, e1, run_size hin, e2]
theorem rd_sl_from {t e z by_ : Nat} {x y : Operand} {b off : Nat} {m q : Nat} {k : IntKind} {i : Int} (ht : tyElem P t = some (e, z, by_)) (h : Ev n σ c x (.slice (some ⟨b, off, none⟩) m q)) (h' : Ev n σ c y (.int k i)) (hi : c → 0 ≤ i ∧ i ≤ m) :
    Rd P n σ c wb (.slice t x (some y) none none) ty (.slice (some ⟨b, if q = i.toNat then off else off + i.toNat * z, none⟩) (m - i.toNat) (q - i.toNat)) := fun d pos after gd a ha hc w1 _ => by
  obtain ⟨hu, inf, hin, hz, _⟩ := underlying_sl ht
  have e1 := hi hc
  simp only [execOp, h a ha hc, h' a ha hc, Instr.sliceAt, Option.map_some, Option.map_none, Sem.run_bind, run_underlying hu, Result.andThen_ok]
  simp [Instr.slice, run_underlying hu, Instr.sliceBounds, Instr.sliceBound, asIntOf, e1, run_size hin, hz]
  split <;> simp [Addr.add]
/-- A function as a value. -/
theorem rd_func {f : FuncId} {fs cs : Array Operand} {vs us : List Value} (h : EvArgs n σ c fs.toList vs) (h' : EvArgs n σ c cs.toList us) : Rd P n σ c wb (.makeFunc (.func f) fs cs) ty (.func (.func f) vs.toArray us.toArray) := fun d pos after gd a ha hc w1 _ => by
  have e1 := h a ha hc
  have e2 := h' a ha hc
  have e3 : fs.map a.eval = vs.toArray := by rw [← e1, ← Array.toList_map, Array.toArray_toList]
  have e4 : cs.map a.eval = us.toArray := by rw [← e2, ← Array.toList_map, Array.toArray_toList]
  simp [execOp, Instr.makeFunc, e3, e4]
def tyConc (P : Program) (t : TypeId) : Bool := match P.underlying t with | some (.interface _) => false | some _ => true | none => false
theorem rd_iface {t : TypeId} {x : Operand} {u : Value} (ht : tyConc P t = true) (h : Ev n σ c x u) : Rd P n σ c wb (.makeInterface t x) ty (.iface t u) := fun d pos after gd a ha hc w1 _ => by
  unfold tyConc at ht
  split at ht <;> try (cases ht; done)
  rename_i d' hd1 hd
  simp only [execOp, h a ha hc, Instr.makeInterface, Sem.run_bind, run_underlying hd, Result.andThen_ok]
  cases d' <;> simp_all
/-! numbers of other sizes -/
def tyInt (P : Program) (t : TypeId) : Option IntKind := match P.underlying t with | some (.int k) => some k | _ => none
theorem underlying_int {t : TypeId} {k : IntKind} (h : tyInt P t = some k) : P.underlying t = some (.int k) := by
  unfold tyInt at h
  split at h
  · rename_i k' hk; injection h with h; subst h; exact hk
  · cases h
theorem rd_conv {s t : TypeId} {x : Operand} {k k1 k2 : IntKind} {i : Int} (hs : tyInt P s = some k1) (ht : tyInt P t = some k2) (h : Ev n σ c x (.int k i)) : Rd P n σ c wb (.convert s t x) ty (.int k2 (k2.wrap i)) := fun d pos after gd a ha hc w1 _ => by
  simp [execOp, h a ha hc, convert, run_underlying (underlying_int hs), run_underlying (underlying_int ht), Conv.intToInt]
theorem rd_convr {s t : TypeId} {x : Operand} {k k1 k2 : IntKind} {i r : Int} (hs : tyInt P s = some k1) (ht : tyInt P t = some k2) (h : Ev n σ c x (.int k i)) (hr : c → k2.wrap i = r) : Rd P n σ c wb (.convert s t x) ty (.int k2 r) := fun d pos after gd a ha hc w1 hg => by
  have := rd_conv (wb := wb) (ty := ty) hs ht h d pos after gd a ha hc w1 hg
  rw [hr hc] at this; exact this
theorem rd_addr {t u : TypeId} {x y : Operand} {k : IntKind} {i j r : Int} (h : Ev n σ c x (.int k i)) (h' : Ev n σ c y (.int k j)) (hr : c → k.wrap (i + j) = r) : Rd P n σ c wb (.binOp .add t x y u) ty (.int k r) := fun d pos after gd a ha hc w1 hg => by
  have := rd_addw (P := P) (t := t) (u := u) (wb := wb) (ty := ty) h h' d pos after gd a ha hc w1 hg
  rw [hr hc] at this; exact this
theorem rd_subr {t u : TypeId} {x y : Operand} {k : IntKind} {i j r : Int} (h : Ev n σ c x (.int k i)) (h' : Ev n σ c y (.int k j)) (hr : c → k.wrap (i - j) = r) : Rd P n σ c wb (.binOp .sub t x y u) ty (.int k r) := fun d pos after gd a ha hc w1 hg => by
  have := rd_subw (P := P) (t := t) (u := u) (wb := wb) (ty := ty) h h' d pos after gd a ha hc w1 hg
  rw [hr hc] at this; exact this
theorem rd_mulr {t u : TypeId} {x y : Operand} {k : IntKind} {i j r : Int} (h : Ev n σ c x (.int k i)) (h' : Ev n σ c y (.int k j)) (hr : c → k.wrap (i * j) = r) : Rd P n σ c wb (.binOp .mul t x y u) ty (.int k r) := fun d pos after gd a ha hc w1 hg => by
  have := rd_mulw (P := P) (t := t) (u := u) (wb := wb) (ty := ty) h h' d pos after gd a ha hc w1 hg
  rw [hr hc] at this; exact this
theorem u64_id {x : Int} (h : 0 ≤ x ∧ x ≤ 18446744073709551615) : IntKind.u64.wrap x = x := by
  have : x % 18446744073709551616 = x := Int.emod_eq_of_lt h.1 (by omega)
  simpa [IntKind.wrap, IntKind.bits, IntKind.signed] using this
theorem u8_id {x : Int} (h : 0 ≤ x ∧ x ≤ 255) : IntKind.u8.wrap x = x := by
  have : x % 256 = x := Int.emod_eq_of_lt h.1 (by omega)
  simpa [IntKind.wrap, IntKind.bits, IntKind.signed] using this

/-! results that lie in cells -/
def rdRes (tmps : Array Value) : ResultVar → Sem Value
  | .tmp t => pure (tmps.getD t undef)
  | .cell a t => do loadVar t (← asAddr (tmps.getD a undef))
def EvR (P : Program) (n : Nat) (σ : List Ent) (w : World) (rs : List ResultVar) (vs : List Value) : Prop := ∀ a, Kn n σ a → (rs.mapM (rdRes a.tmps)).run P w = .ok vs w
theorem evr_nil {w : World} : EvR P n σ w [] [] := fun _ _ => rfl
theorem evr_cons {w : World} {r : ResultVar} {rs : List ResultVar} {vs : List Value} (h : ∀ a, Kn n σ a → (rdRes a.tmps r).run P w = .ok v w) (k : EvR P n σ w rs vs) : EvR P n σ w (r :: rs) (v :: vs) := fun a ha => by
  have h1 := h a ha
  have h2 := k a ha
  rw [List.mapM_cons]
  simp only [Sem.run_bind, Sem.run_pure, h1, h2, Result.andThen_ok]
theorem evr_t {w : World} {t : Nat} {rs : List ResultVar} {vs : List Value} (h : look σ t = some (True, v)) (k : EvR P n σ w rs vs) : EvR P n σ w (.tmp t :: rs) (v :: vs) := evr_cons (fun a ha => by
  have := ha.at_ h trivial
  simp [rdRes, this]) k
theorem evr_c {w : World} {t b o z : Nat} {T : TypeId} {l : List Value} {rs : List ResultVar} {vs : List Value} (h : look σ t = some (True, .pointer (some ⟨b, o, none⟩))) (ht : tyAgg P T = some z) (hl : l.length = z) (hc : RowAt w b o l) (k : EvR P n σ w rs vs) : EvR P n σ w (.cell t T :: rs) (.agg l.toArray :: vs) := evr_cons (fun a ha => by
  have := ha.at_ h trivial
  have h2 := loadVar_agg ht hl hc
  simp [rdRes, this, asAddr, h2]) k
theorem evr_c1 {w : World} {t b o : Nat} {T : TypeId} {rs : List ResultVar} {vs : List Value} (h : look σ t = some (True, .pointer (some ⟨b, o, none⟩))) (ht : tyOne P T = true) (hc : w.cell? ⟨b, o, none⟩ = some v) (k : EvR P n σ w rs vs) : EvR P n σ w (.cell t T :: rs) (v :: vs) := evr_cons (fun a ha => by
  have := ha.at_ h trivial
  have h2 := loadVar_one ht hc
  simp [rdRes, this, asAddr, h2]) k
theorem t_retv {fn : Func} {R : Value → World → Prop} {w : World} {rs : List ResultVar} {vs : List Value} (hr : fn.results = rs.toArray) (h2 : Nat.beq rs.length 1 = false) (hl : EvR P n σ w rs vs) (hlen : vs.length = rs.length) (h : R (.tuple vs.toArray) w) :
    ∀ a, Kn n σ a → bodyPost P fn (fun e w' => ∃ v, e = .returned v ∧ R v w') .ret a w := fun a ha => by
  refine bodyPost_ret (v := .tuple vs.toArray) ?_ ha.2.1 ⟨_, rfl, h⟩
  have h1 := hl a ha
  have hres : results fn a.tmps = (do let vs ← fn.results.mapM (rdRes a.tmps); pure (if h : vs.size = 1 then vs[0] else .tuple vs)) := by
    unfold results
    congr 1
  rw [hres, hr, Array.mapM_eq_mapM_toList]
  simp only [Sem.run_bind, Sem.run_map, h1, Result.andThen_ok]
  have hn : vs.length ≠ 1 := by rw [hlen]; intro he; rw [he] at h2; cases h2
  simp [hn]
theorem t_retv1 {fn : Func} {R : Value → World → Prop} {w : World} {r : ResultVar} (hr : fn.results = #[r]) (hl : EvR P n σ w [r] [v]) (h : R v w) :
    ∀ a, Kn n σ a → bodyPost P fn (fun e w' => ∃ v, e = .returned v ∧ R v w') .ret a w := fun a ha => by
  refine bodyPost_ret (v := v) ?_ ha.2.1 ⟨_, rfl, h⟩
  have h1 := hl a ha
  have hres : results fn a.tmps = (do let vs ← fn.results.mapM (rdRes a.tmps); pure (if h : vs.size = 1 then vs[0] else .tuple vs)) := by
    unfold results
    congr 1
  rw [hres, hr, Array.mapM_eq_mapM_toList]
  simp only [Sem.run_bind, Sem.run_map, h1, Result.andThen_ok]
  simp
end
end Go.Rk
