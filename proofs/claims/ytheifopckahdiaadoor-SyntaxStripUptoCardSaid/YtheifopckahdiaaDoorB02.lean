/- Merged texts of one road: More, Str, Post, Byt, EngT, Nest, Facts, LayP, LayM, LayB. Conditions: each text's own. -/
import Derived.Test.YtheifopckahdiaaDoorB01
import Derived.Laws.StructEq
import Derived.Stop.IfaceNil
import Derived.Laws.Pointers
import Derived.Lib.Builder
import Derived.Lib.AppendStr
import Derived.Lib.UnsafeStr
import Derived.Laws.Externs
import Derived.ChangeSame
import Derived.Below
import Derived.Laws.MakeOwn
import Derived.Laws.BytesString
import Derived.Lib.ConvBytes
import Derived.Lib.AtoiErrMem
import Derived.Laws.OwnMore
import Derived.Test.YtheifopckahdiaaDoorProg
import Derived.KernelRfl
import Derived.Shelf.LaysC
import Derived.Shelf.LaysM
import Derived.Shelf.Lays
set_option linter.unusedSimpArgs false
set_option linter.unusedVariables false
namespace Go.Rk
open Go Go.RowKit
set_option linter.unusedVariables false
section
variable {P : Program} {n : Nat} {σ : List Ent} {c : Prop} {wb : World} {ty : TypeId} {v : Value}

/-! structs of plain cells, compared -/
def flatKind (P : Program) (t : TypeId) : Option Nat := match P.underlying t with
  | some (.int _) => some 0
  | some .string => some 1
  | some .bool => some 2
  | _ => none
def flatFs (P : Program) : Nat → List Field → Option (List Nat)
  | _, [] => some []
  | k, f :: fs => if Nat.beq f.offset k && f.name != "_" then match flatKind P f.type, flatFs P (k + 1) fs with
      | some a, some l => some (a :: l)
      | _, _ => none
    else none
def tyFlat (P : Program) (t : TypeId) : Option (List Nat) := match P.underlying t with
  | some (.struct fs) => if P.stoodInHeld t = false ∧ P.eqGuardType P.depth t = false then flatFs P 0 fs.toList else none
  | _ => none
def eqL : List Nat → List Value → List Value → Option Bool
  | [], [], [] => some true
  | 0 :: ks, .int k a :: l, .int k' b :: l' => if k = k' then match eqL ks l l' with | some r => some (decide (a = b) && r) | none => none else none
  | 1 :: ks, .string a :: l, .string b :: l' => match eqL ks l l' with | some r => some (decide (a.data.toList = b.data.toList) && r) | none => none
  | 2 :: ks, .bool a :: l, .bool b :: l' => match eqL ks l l' with | some r => some (a == b && r) | none => none
  | _, _, _ => none
theorem part_one {t : TypeId} (ht : tyOne P t = true) {cs : Array Value} {o : Nat} {v : Value} (hv : cs[o]? = some v) (w : World) : (part t cs o).run P w = .ok v w := by
  have : (isAgg t).run P w = .ok false w := by
    unfold tyOne at ht
    split at ht <;> try (cases ht; done)
    rename_i d hd1 hd2 hd
    simp only [isAgg, Sem.run_bind, run_underlying hd, Result.andThen_ok]
    cases d <;> simp_all
  simp [part, this, hv]
theorem flat_one {t : TypeId} {k : Nat} (h : flatKind P t = some k) : tyOne P t = true := by
  unfold flatKind at h
  unfold tyOne
  split at h <;> simp_all
theorem eqL_0 {u u' : Value} {b : Bool} (he : eqL [0] [u] [u'] = some b) : ∃ k a a', u = .int k a ∧ u' = .int k a' ∧ b = decide (a = a') := by
  unfold eqL at he
  split at he
  · rename_i h1 _ _; cases h1
  · rename_i h1 h2 h3
    injection h2 with h2 h2'; injection h3 with h3 h3'; injection h1 with h0 h1'; subst h2' h3' h2 h3 h1'
    split at he
    · rename_i hk; subst hk
      simp [eqL] at he
      exact ⟨_, _, _, rfl, rfl, he.symm⟩
    · cases he
  · rename_i h1 _ _; cases h1
  · rename_i h1 _ _; cases h1
  · cases he
theorem eqL_1 {u u' : Value} {b : Bool} (he : eqL [1] [u] [u'] = some b) : ∃ a a', u = .string a ∧ u' = .string a' ∧ b = decide (a.data.toList = a'.data.toList) := by
  unfold eqL at he
  split at he
  · rename_i h1 _ _; cases h1
  · rename_i h1 _ _; cases h1
  · rename_i h1 h2 h3
    injection h2 with h2 h2'; injection h3 with h3 h3'; injection h1 with h0 h1'; subst h2' h3' h2 h3 h1'
    simp only [eqL, Bool.and_true, Option.some.injEq] at he
    exact ⟨_, _, rfl, rfl, he.symm⟩
  · rename_i h1 _ _; cases h1
  · cases he
theorem eqL_2 {u u' : Value} {b : Bool} (he : eqL [2] [u] [u'] = some b) : ∃ a a', u = .bool a ∧ u' = .bool a' ∧ b = (a == a') := by
  unfold eqL at he
  split at he
  · rename_i h1 _ _; cases h1
  · rename_i h1 _ _; cases h1
  · rename_i h1 _ _; cases h1
  · rename_i h1 h2 h3
    injection h2 with h2 h2'; injection h3 with h3 h3'; injection h1 with h0 h1'; subst h2' h3' h2 h3 h1'
    simp only [eqL, Bool.and_true, Option.some.injEq] at he
    exact ⟨_, _, rfl, rfl, he.symm⟩
  · cases he
theorem flat_cell {t : TypeId} {k d : Nat} (h : flatKind P t = some k) {u u' : Value} {b : Bool} (he : eqL [k] [u] [u'] = some b) (w : World) : (Op.equalIn (d + 1) t u u').run P w = .ok b w := by
  unfold flatKind at h
  split at h <;> try (cases h; done)
  · rename_i k0 hu
    injection h with h; subst h
    obtain ⟨k, a, a', rfl, rfl, rfl⟩ := eqL_0 he
    rw [run_equalIn_int w d t _ k0 _ _ hu]
    congr 1
  · rename_i hu
    injection h with h; subst h
    obtain ⟨a, a', rfl, rfl, rfl⟩ := eqL_1 he
    rw [run_equalIn_string w d t _ _ hu]
    congr 1
    rw [ByteArray.toList_eq, ByteArray.toList_eq]
    rw [Bool.eq_iff_iff]; simp
  · rename_i hu
    injection h with h; subst h
    obtain ⟨a, a', rfl, rfl, rfl⟩ := eqL_2 he
    rw [run_equalIn_bool' w d t _ _ hu]
theorem eqL_cons {k : Nat} {ks : List Nat} {l l' : List Value} {b : Bool} (h : eqL (k :: ks) l l' = some b) : ∃ u u' r r' b1 b2, l = u :: r ∧ l' = u' :: r' ∧ eqL [k] [u] [u'] = some b1 ∧ eqL ks r r' = some b2 ∧ b = (b1 && b2) := by
  unfold eqL at h
  split at h
  · rename_i h1; cases h1
  · rename_i h1; injection h1 with h1 h1'; subst h1 h1'
    split at h
    · rename_i hk; subst hk
      split at h
      · rename_i r hr; injection h with h; exact ⟨_, _, _, _, _, r, rfl, rfl, by simp [eqL], hr, h.symm⟩
      · cases h
    · cases h
  · rename_i h1; injection h1 with h1 h1'; subst h1 h1'
    split at h
    · rename_i r hr; injection h with h; exact ⟨_, _, _, _, _, r, rfl, rfl, by simp [eqL], hr, h.symm⟩
    · cases h
  · rename_i h1; injection h1 with h1 h1'; subst h1 h1'
    split at h
    · rename_i r hr; injection h with h; exact ⟨_, _, _, _, _, r, rfl, rfl, by simp [eqL], hr, h.symm⟩
    · cases h
  · cases h
theorem flat_run (d : Nat) : ∀ (fs : List Field) (ks : List Nat) (k : Nat) (l l' : List Value) (pre pre' : List Value) (b : Bool), flatFs P k fs = some ks → pre.length = k → pre'.length = k → eqL ks l l' = some b →
    ∀ w, (Op.eqFields (d + 1) (pre ++ l).toArray (pre' ++ l').toArray fs).run P w = .ok b w
  | [], ks, k, l, l', pre, pre', b, hf, h1, h2, he, w => by
    injection hf with hf; subst hf
    unfold eqL at he
    split at he <;> simp_all [Op.eqFields]
  | f :: fs, ks, k, l, l', pre, pre', b, hf, h1, h2, he, w => by
    unfold flatFs at hf
    split at hf
    · rename_i hc
      simp only [Bool.and_eq_true, bne_iff_ne, ne_eq] at hc
      have hc := And.intro (Nat.eq_of_beq_eq_true hc.1) hc.2
      split at hf
      · rename_i a ls ha hls
        injection hf with hf; subst hf
        obtain ⟨u, u', r, r', b1, b2, rfl, rfl, e1, e2, rfl⟩ := eqL_cons he
        have ho := flat_one ha
        have g1 : (pre ++ u :: r).toArray[f.offset]? = some u := by simp [hc.1, ← h1]
        have g2 : (pre' ++ u' :: r').toArray[f.offset]? = some u' := by simp [hc.1, ← h2]
        have ih := flat_run d fs ls (k + 1) r r' (pre ++ [u]) (pre' ++ [u']) b2 hls (by simp [h1]) (by simp [h2]) e2 w
        rw [List.append_assoc, List.append_assoc, List.singleton_append, List.singleton_append] at ih
        simp only [Op.eqFields, if_pos hc.2, Sem.run_bind, part_one ho g1, part_one ho g2, Result.andThen_ok, flat_cell ha e1]
        cases b1
        · simp
        · simpa using ih
      · cases hf
    · cases hf
theorem rd_stne {t u : TypeId} {x y : Operand} {ks : List Nat} {l l' : List Value} {b : Bool} (ht : tyFlat P t = some ks) (h : Ev n σ c x (.agg l.toArray)) (h' : Ev n σ c y (.agg l'.toArray)) (he : eqL ks l l' = some b) : Rd P n σ c wb (.binOp .neq t x y u) ty (.bool (!b)) := fun d pos after gd a ha hc w1 _ => by
  unfold tyFlat at ht
  split at ht
  · rename_i fs hfs
    split at ht
    · rename_i hk
      have hfo : P.fieldsOf t = fs := by simp [Program.fieldsOf, hfs]
      have k2 := run_equalIn_struct w1 9999 t l.toArray l'.toArray (by rw [hfo]; exact hfs) hk.1
      have k3 := flat_run 9998 fs.toList ks 0 l l' [] [] b ht rfl rfl he w1
      simp only [List.nil_append] at k3
      rw [hfo, k3] at k2
      simp [execOp, h a ha hc, h' a ha hc, run_eqGuard_agg w1 .neq t x y l.toArray l'.toArray hk.2, run_neq_struct, k2]
    · cases ht
  · cases ht

/-! an array's element, by value -/
def tyArr1 (P : Program) (t : TypeId) : Option Nat := match P.underlying t with
  | some (.array m e) => if tyOne P e = true ∧ tySize P e = some 1 then some m else none
  | _ => none
theorem rd_aidx {t m : Nat} {x y : Operand} {cs : Array Value} {k : IntKind} {i : Int} {v : Value} (ht : tyArr1 P t = some m) (h : Ev n σ c x (.agg cs)) (h' : Ev n σ c y (.int k i)) (hi : c → 0 ≤ i ∧ i < m) (hv : c → cs[i.toNat]? = some v) :
    Rd P n σ c wb (.index t x y) ty v := fun d pos after gd a ha hc w1 _ => by
  obtain ⟨h0, h1⟩ := hi hc
  unfold tyArr1 at ht
  split at ht
  · rename_i m' e hu
    split at ht
    · rename_i hk
      injection ht with ht; subst ht
      obtain ⟨ho, hz⟩ := hk
      unfold tySize at hz
      cases hi2 : P.info? e with
      | none => rw [hi2] at hz; cases hz
      | some inf =>
        rw [hi2] at hz; injection hz with hz
        have hs : (sizeOf e).run P w1 = .ok 1 w1 := by
          have := hz; simp [sizeOf, typeInfo, run_program, hi2, hz]
        simp [execOp, h a ha hc, h' a ha hc, Instr.index, asIntOf, run_underlying hu, h0, h1, hs, part_one ho (hv hc)]
    · cases ht
  · cases ht

/-! nil -/
def nilV : Value → Bool
  | .nilIface => true
  | _ => false
theorem rd_ine {t u : TypeId} {x : Operand} {e : Value} (ht : P.isIface t = true) (h : Ev n σ c x e) (he : e = .nilIface ∨ ∃ a b, e = .iface a b) : Rd P n σ c wb (.binOp .neq t x (.const .nilIface) u) ty (.bool (!nilV e)) := fun d pos after gd a ha hc w1 _ => by
  rcases he with rfl | ⟨t1, u1, rfl⟩
  · simp [execOp, h a ha hc, eval_const, eqGuard, binOp, Op.equal, Op.maxDepth, run_equalIn_nil_nil_at w1 9999 t ht, nilV]
  · simp [execOp, h a ha hc, eval_const, eqGuard, binOp, Op.equal, Op.maxDepth, run_equalIn_iface_nil w1 9999 t ht, nilV]
def tyPtr (P : Program) (t : TypeId) : Bool := match P.underlying t with | some (.pointer _) => true | _ => false
theorem underlying_ptr {t : TypeId} (h : tyPtr P t = true) : ∃ e, P.underlying t = some (.pointer e) := by
  unfold tyPtr at h
  split at h
  · rename_i e he; exact ⟨e, he⟩
  · cases h
theorem eq_ptr {t e : TypeId} (he : P.underlying t = some (.pointer e)) (o : Option Addr) (d : Nat) (w : World) : (Op.equalIn (d + 1) t (.pointer o) (.pointer none)).run P w = .ok o.isNone w := by
  cases o <;> simp [Op.equalIn, run_underlying he]
theorem rd_peq {t u : TypeId} {x : Operand} {o : Option Addr} (ht : tyPtr P t = true) (h : Ev n σ c x (.pointer o)) : Rd P n σ c wb (.binOp .eql t x (.const (.pointer none)) u) ty (.bool o.isNone) := fun d pos after gd a ha hc w1 _ => by
  obtain ⟨e, he⟩ := underlying_ptr ht
  simp [execOp, h a ha hc, eval_const, eqGuard_at_pointer, binOp, Op.equal, Op.maxDepth, eq_ptr he o 9999 w1]
/-! slices of slices -/
theorem run_size {e : TypeId} {i : TypeInfo} (hi : P.info? e = some i) (w : World) : (sizeOf e).run P w = .ok i.size w := by simp [sizeOf, typeInfo, run_program, hi]
theorem rd_sl_from {t e z by_ : Nat} {x y : Operand} {b off : Nat} {m q : Nat} {k : IntKind} {i : Int} (ht : tyElem P t = some (e, z, by_)) (h : Ev n σ c x (.slice (some ⟨b, off, none⟩) m q)) (h' : Ev n σ c y (.int k i)) (hi : c → 0 ≤ i ∧ i ≤ m) :
    Rd P n σ c wb (.slice t x (some y) none none) ty (.slice (some ⟨b, if q = i.toNat then off else off + i.toNat * z, none⟩) (m - i.toNat) (q - i.toNat)) := fun d pos after gd a ha hc w1 _ => by
  obtain ⟨hu, inf, hin, hz, _⟩ := underlying_sl ht
  have e1 := hi hc
  simp only [execOp, h a ha hc, h' a ha hc, Instr.sliceAt, Option.map_some, Option.map_none, Sem.run_bind, run_underlying hu, Result.andThen_ok]
  simp [Instr.slice, run_underlying hu, Instr.sliceBounds, Instr.sliceBound, asIntOf, e1, run_size hin, hz]
  split <;> simp [Addr.add]
/-- A function as a value. -/
theorem rd_func {f : FuncId} {fs cs : Array Operand} {vs us : List Value} (h : EvArgs n σ c fs.toList vs) (h' : EvArgs n σ c cs.toList us) : Rd P n σ c wb (.makeFunc (.func f) fs cs) ty (.func (.func f) vs.toArray us.toArray) := fun d pos after gd a ha hc w1 _ => by
  have e1 := h a ha hc
  have e2 := h' a ha hc
  have e3 : fs.map a.eval = vs.toArray := by rw [← e1, ← Array.toList_map, Array.toArray_toList]
  have e4 : cs.map a.eval = us.toArray := by rw [← e2, ← Array.toList_map, Array.toArray_toList]
  simp [execOp, Instr.makeFunc, e3, e4]
def tyConc (P : Program) (t : TypeId) : Bool := match P.underlying t with | some (.interface _) => false | some _ => true | none => false
/-! numbers of other sizes -/
def tyInt (P : Program) (t : TypeId) : Option IntKind := match P.underlying t with | some (.int k) => some k | _ => none
theorem underlying_int {t : TypeId} {k : IntKind} (h : tyInt P t = some k) : P.underlying t = some (.int k) := by
  unfold tyInt at h
  split at h
  · rename_i k' hk; injection h with h; subst h; exact hk
  · cases h
theorem rd_conv {s t : TypeId} {x : Operand} {k k1 k2 : IntKind} {i : Int} (hs : tyInt P s = some k1) (ht : tyInt P t = some k2) (h : Ev n σ c x (.int k i)) : Rd P n σ c wb (.convert s t x) ty (.int k2 (k2.wrap i)) := fun d pos after gd a ha hc w1 _ => by
  simp [execOp, h a ha hc, convert, run_underlying (underlying_int hs), run_underlying (underlying_int ht), Conv.intToInt]
theorem rd_convr {s t : TypeId} {x : Operand} {k k1 k2 : IntKind} {i r : Int} (hs : tyInt P s = some k1) (ht : tyInt P t = some k2) (h : Ev n σ c x (.int k i)) (hr : c → k2.wrap i = r) : Rd P n σ c wb (.convert s t x) ty (.int k2 r) := fun d pos after gd a ha hc w1 hg => by
  have := rd_conv (wb := wb) (ty := ty) hs ht h d pos after gd a ha hc w1 hg
  rw [hr hc] at this; exact this
theorem rd_subr {t u : TypeId} {x y : Operand} {k : IntKind} {i j r : Int} (h : Ev n σ c x (.int k i)) (h' : Ev n σ c y (.int k j)) (hr : c → k.wrap (i - j) = r) : Rd P n σ c wb (.binOp .sub t x y u) ty (.int k r) := fun d pos after gd a ha hc w1 hg => by
  have := rd_subw (P := P) (t := t) (u := u) (wb := wb) (ty := ty) h h' d pos after gd a ha hc w1 hg
  rw [hr hc] at this; exact this
/-! results that lie in cells -/
def rdRes (tmps : Array Value) : ResultVar → Sem Value
  | .tmp t => pure (tmps.getD t undef)
  | .cell a t => do loadVar t (← asAddr (tmps.getD a undef))
def EvR (P : Program) (n : Nat) (σ : List Ent) (w : World) (rs : List ResultVar) (vs : List Value) : Prop := ∀ a, Kn n σ a → (rs.mapM (rdRes a.tmps)).run P w = .ok vs w
theorem evr_nil {w : World} : EvR P n σ w [] [] := fun _ _ => rfl
theorem evr_cons {w : World} {r : ResultVar} {rs : List ResultVar} {vs : List Value} (h : ∀ a, Kn n σ a → (rdRes a.tmps r).run P w = .ok v w) (k : EvR P n σ w rs vs) : EvR P n σ w (r :: rs) (v :: vs) := fun a ha => by
  have h1 := h a ha
  have h2 := k a ha
  rw [List.mapM_cons]
  simp only [Sem.run_bind, Sem.run_pure, h1, h2, Result.andThen_ok]
theorem evr_c {w : World} {t b o z : Nat} {T : TypeId} {l : List Value} {rs : List ResultVar} {vs : List Value} (h : look σ t = some (True, .pointer (some ⟨b, o, none⟩))) (ht : tyAgg P T = some z) (hl : l.length = z) (hc : RowAt w b o l) (k : EvR P n σ w rs vs) : EvR P n σ w (.cell t T :: rs) (.agg l.toArray :: vs) := evr_cons (fun a ha => by
  have := ha.at_ h trivial
  have h2 := loadVar_agg ht hl hc
  simp [rdRes, this, asAddr, h2]) k
theorem evr_c1 {w : World} {t b o : Nat} {T : TypeId} {rs : List ResultVar} {vs : List Value} (h : look σ t = some (True, .pointer (some ⟨b, o, none⟩))) (ht : tyOne P T = true) (hc : w.cell? ⟨b, o, none⟩ = some v) (k : EvR P n σ w rs vs) : EvR P n σ w (.cell t T :: rs) (v :: vs) := evr_cons (fun a ha => by
  have := ha.at_ h trivial
  have h2 := loadVar_one ht hc
  simp [rdRes, this, asAddr, h2]) k
theorem t_retv1 {fn : Func} {R : Value → World → Prop} {w : World} {r : ResultVar} (hr : fn.results = #[r]) (hl : EvR P n σ w [r] [v]) (h : R v w) :
    ∀ a, Kn n σ a → bodyPost P fn (fun e w' => ∃ v, e = .returned v ∧ R v w') .ret a w := fun a ha => by
  refine bodyPost_ret (v := v) ?_ ha.2.1 ⟨_, rfl, h⟩
  have h1 := hl a ha
  have hres : results fn a.tmps = (do let vs ← fn.results.mapM (rdRes a.tmps); pure (if h : vs.size = 1 then vs[0] else .tuple vs)) := by
    unfold results
    congr 1
  rw [hres, hr, Array.mapM_eq_mapM_toList]
  simp only [Sem.run_bind, Sem.run_map, h1, Result.andThen_ok]
  simp
end
end Go.Rk
namespace Go.Rk
open Go Go.RowKit
set_option linter.unusedVariables false
section
variable {P : Program} {n : Nat} {σ : List Ent} {c : Prop} {wb : World} {ty : TypeId} {v : Value}
def unsafeTo (P : Program) (src dst : TypeId) : Bool := match P.underlying src, P.underlying dst with
  | some (.pointer t), some .unsafePointer => match P.info? t with | some i => !(Nat.beq i.size 0) | none => false
  | _, _ => false
theorem blk_shape {w : World} {b : Nat} {e : TypeId} {l : List Value} (h : Blk w b e l) : w.shape? b = some (e, l.length) := by
  unfold Blk at h
  simp [World.shape?, h]
theorem rd_to_unsafe {src dst : TypeId} {x : Operand} {b o : Nat} {e : TypeId} {l : List Value} (hk : unsafeTo P src dst = true) (h : Ev n σ c x (.pointer (some ⟨b, o, none⟩))) (hB : c → Blk wb b e l) (ho : Nat.blt o l.length = true) : Rd P n σ c wb (.convert src dst x) ty (.pointer (some ⟨b, o, none⟩)) := fun d pos after gd a ha hc w1 hg => by
  unfold unsafeTo at hk
  split at hk
  · rename_i t hs hd
    split at hk
    · rename_i i hi
      have := Lib.run_to_unsafe w1 ⟨b, o, none⟩ hs hd hi (by intro hz; rw [hz] at hk; cases hk) (blk_shape ((hB hc).grow hg)) (by simpa [Nat.blt_eq] using ho)
      simp [execOp, h a ha hc, this]
    · cases hk
  · cases hk
def unsafeFrom (P : Program) (src dst : TypeId) (e : TypeId) (k o : Nat) : Bool := match P.underlying src, P.underlying dst with
  | some .unsafePointer, some (.pointer u) => (P.info? u).isSome && liesAt P P.depth e (k / P.cellsOf e) o u 1
  | _, _ => false
theorem rd_from_unsafe {src dst : TypeId} {x : Operand} {b o : Nat} {e : TypeId} {l : List Value} (hk : unsafeFrom P src dst e l.length o = true) (h : Ev n σ c x (.pointer (some ⟨b, o, none⟩))) (hB : c → Blk wb b e l) : Rd P n σ c wb (.convert src dst x) ty (.pointer (some ⟨b, o, none⟩)) := fun d pos after gd a ha hc w1 hg => by
  unfold unsafeFrom at hk
  split at hk
  · rename_i u hs hd
    simp only [Bool.and_eq_true] at hk
    obtain ⟨i, hi⟩ := Option.isSome_iff_exists.mp hk.1
    have := Lib.run_from_unsafe w1 ⟨b, o, none⟩ hs hd hi (blk_shape ((hB hc).grow hg)) hk.2
    simp [execOp, h a ha hc, this]
  · cases hk
def isNoEscape (P : Program) (f : FuncId) : Prop := ∀ (x : Value) (w : World), (callFunc f #[x]).run P w = .ok (.value x) w
theorem noEscape_of {f : FuncId} {fn : Func} (hf : P.funcs[f]? = some fn) (hname : (fn.name == "runtime.NumGoroutine") = false) (hb : fn.body.isNone = true) (hn : Extern.findNext fn = none) (he : Extern.find fn = some Extern.AbiNoEscape.same) : isNoEscape P f := fun x w => by
  rw [run_callFunc_extern hf hname hb hn he, Lib.run_noEscape]; rfl
theorem rd_noescape {f : FuncId} {x : Operand} {ats : Array TypeId} (hf : isNoEscape P f) (h : Ev n σ c x v) : Rd P n σ c wb (.call { callee := .value (.func f), args := #[x], argTypes := ats }) ty v := fun d pos after gd a ha hc w1 _ => by
  have h1 := hf v w1
  have e : a.eval (.func f) = .func (.func f) #[] #[] := rfl
  simp [execOp, resolve, invoke, Deferred.ofValue, e, h a ha hc, h1]
theorem rd_pne_same {t u : TypeId} {x y : Operand} {ad : Addr} (ht : tyPtr P t = true) (hz : ∀ e, P.underlying t = some (.pointer e) → (P.info? e).isSome = true) (h : Ev n σ c x (.pointer (some ad))) (h' : Ev n σ c y (.pointer (some ad))) : Rd P n σ c wb (.binOp .neq t x y u) ty (.bool false) := fun d pos after gd a ha hc w1 _ => by
  obtain ⟨e, he⟩ := underlying_ptr ht
  obtain ⟨j, hj⟩ := Option.isSome_iff_exists.mp (hz e he)
  have := Lib.run_neq_ptr_same w1 ad he hj
  simp [execOp, h a ha hc, h' a ha hc, eqGuard_at_pointer, this]
end
section
variable {P : Program} {Z : List PanicEntry → Act → World → Prop} {ops : List Oper} {cl : List Nat} {lv : List Bool} {W0 : World} {n : Nat} {K : Act → World → Prop} {k : Nat} {rest : List Oper} {σ : List Ent} {w : World} {d : Nat} {ty : TypeId} {pos : String} {after : Array Edge}
/-- A guarded call that only grows the memory: one way on, whatever the guard says. -/
theorem sr_callq {g t : Nat} {want b : Bool} {c0 : Prop} {op : Op} {f : FuncId} {args : Array Value} {R : Value → World → Prop} (hb : (!Nat.beq (clOf cl k) 0 && !Nat.beq (clOf cl k) 3 && Nat.blt d n) = true)
    (hgd : ((ops.toArray[g]?).bind (·.dst)) = some t) (hlk : look σ t = some (c0, .bool b)) (hr : c0 ∧ b = want → RunC P n σ (c0 ∧ b = want) w op ty f args) (hC : c0 ∧ b = want → Ret P f args w fun v w' => R v w' ∧ G w w')
    (h : ∀ v w', (c0 ∧ b = want → R v w') → G w w' → SR P Z ops cl lv W0 n K (k + 1) rest ((d, c0 ∧ b = want, v) :: σ) w') :
    SR P Z ops cl lv W0 n K k (⟨some d, op, ty, pos, after, some (g, want)⟩ :: rest) σ w :=
  sr_callg hb hgd hlk hr hC (fun v w' _ hv => ⟨fun _ => hv.2, h v w' (fun _ => hv.1) hv.2⟩) (fun hn => h undef w (fun hc => absurd hc hn) (G.refl w))
/-- append(b, s...) of a string. -/
theorem sr_appends {t u e base m : Nat} {x y : Operand} {s : Value} {xs : List Value} {l : List UInt8} (hb : (Nat.beq (clOf cl k) 2 && Nat.blt d n) = true) (ht : tyElem P t = some (e, 1, 1)) (hzv : zeroOf P e = some (.int .u8 0)) (hus : tyStr P u = true)
    (hx : Ev n σ True x s) (hown : w.ownsRow base e 1 s m xs) (hy : Ev n σ True y (Str l)) (h63 : m + l.length ≤ 140737488355328) (hbase : base ≤ w.heap.size)
    (h : ∀ a' c' w', w'.ownsRow base e 1 (.slice a' (m + l.length) c') (m + l.length) (xs ++ Lib.byteCells l) → w.grownBy w' s.ownBlock → SR P Z ops cl lv W0 n K (k + 1) rest ((d, True, .slice a' (m + l.length) c') :: σ) w') :
    SR P Z ops cl lv W0 n K k (⟨some d, .call { callee := .builtin .append, args := #[x, y], argTypes := #[t, u] }, ty, pos, after, none⟩ :: rest) σ w := by
  obtain ⟨hu, i, hi, hsz, hbyi⟩ := underlying_sl ht
  obtain ⟨i', hi', hz'⟩ := zero_info hzv
  obtain rfl : i = i' := Option.some.inj (hi.symm.trans hi')
  simp only [Bool.and_eq_true] at hb
  have hc := Nat.eq_of_beq_eq_true hb.1
  have hsl : (⟨l.toArray⟩ : ByteArray).size = l.length := by simp [ByteArray.size]
  obtain ⟨s', w', r1, r2, r3, _⟩ := Lib.run_append_own_string (P := P) w base t u ty e i hu (underlying_str hus) hi hz' hsz hbyi s m xs hown ⟨l.toArray⟩ (by rw [hsl]; simp only [maxLen]; omega) (by rw [hsl]; omega) hbase
  rw [hsl] at r2
  obtain ⟨a', c', hs'⟩ : ∃ a' c', s' = .slice a' (m + l.length) c' := by
    rcases r2.2 with ⟨q1, q2⟩ | ⟨g, cap, cur, q1, _⟩
    · exact ⟨none, 0, by rw [q1, q2]⟩
    · exact ⟨_, cap, q1⟩
  subst hs'
  refine sr_val (w' := w') (by rw [hc, hb.2]; rfl) (fun d pos after g a ha _ => ?_) (fun hh => by omega) (h a' c' w' r2 r3)
  simp only [execOp, resolve, invoke, builtin, Sem.run_bind, Sem.run_pure, Result.andThen_ok, List.map_toArray, List.map_cons, List.map_nil, hx a ha trivial, hy a ha trivial, r1]
end
end Go.Rk
namespace Go.Rk
open Go Go.RowKit Go.ChangeShapes Go.WideShapes
end Go.Rk
namespace Go.Rk
open Go Go.RowKit
set_option linter.unusedVariables false
/-- A block whose first cells are bytes, and may be written. -/
def Byt (w : World) (b : Nat) (e : TypeId) (l : List UInt8) : Prop := ∃ cs lo hi, w.heap[b]? = some (.cells cs e (lo, hi)) ∧ (∀ (j : Nat) (v : Value), (Lib.byteCells l)[j]? = some v → cs[j]? = some v) ∧ (hi = 0 ∨ l.length ≤ lo)
theorem Byt.row {w : World} {b : Nat} {e : TypeId} {l : List UInt8} (h : Byt w b e l) : RowAt w b 0 (Lib.byteCells l) := by
  obtain ⟨cs, lo, hi, hb, hc, _⟩ := h
  intro j v hj
  rw [Nat.zero_add]
  simp [World.cell?, hb, hc j v hj]
theorem Byt.lt {w : World} {b : Nat} {e : TypeId} {l : List UInt8} (h : Byt w b e l) : b < w.heap.size := by
  obtain ⟨cs, lo, hi, hb, _⟩ := h
  exact (Array.getElem?_eq_some_iff.mp hb).1
theorem Byt.keep {w w1 : World} {b : Nat} {e : TypeId} {l : List UInt8} {row : Option Nat} (h : Byt w b e l) (hg : w.grownBy w1 row) (hne : some b ≠ row) : Byt w1 b e l := by
  have hlt := h.lt
  obtain ⟨cs, lo, hi, hb, hc, hf⟩ := h
  exact ⟨cs, lo, hi, by obtain ⟨_, _, _, _, ho⟩ := hg; rw [ho b hlt hne]; exact hb, hc, hf⟩
theorem Byt.grow {w w1 : World} {b : Nat} {e : TypeId} {l : List UInt8} (h : Byt w b e l) (hg : G w w1) : Byt w1 b e l := h.keep (hg.only none) (by intro e; cases e)
section
variable {P : Program} {n : Nat} {σ : List Ent} {c : Prop} {wb : World} {ty : TypeId}
end
section
variable {P : Program} {Z : List PanicEntry → Act → World → Prop} {ops : List Oper} {cl : List Nat} {lv : List Bool} {W0 : World} {n : Nat} {K : Act → World → Prop} {k : Nat} {rest : List Oper} {σ : List Ent} {w : World} {d : Nat} {ty : TypeId} {pos : String} {after : Array Edge}
end
end Go.Rk
namespace Go.Rk
open Go Go.RowKit
set_option linter.unusedVariables false
/-- Growth but for one block. -/
abbrev GX (row : Option Nat) (w w' : World) : Prop := w.grownBy w' row
theorem GX.refl (row : Option Nat) (w : World) : GX row w w := (G.refl w).only row
/-- An effect in its turn, as Eff, under another relation. -/
def EffQ (P : Program) (Z : List PanicEntry → Act → World → Prop) (row : Option Nat) (gr : Bool) (o : Oper) (a : Act) (w : World) (next : Act → World → Prop) : Prop :=
  (∃ v w', (execOp a.eval o).run P w = .ok (.value v) w' ∧ (gr = true → GX row w w') ∧ next (a.put o.dst v) w') ∨
  (∃ w', (execOp a.eval o).run P w = .ok .skip w' ∧ (gr = true → GX row w w') ∧ next (a.put o.dst undef) w') ∨
  (∃ f args, (execOp a.eval o).run P w = .ok (.enter f args) w ∧ Calls P f args w fun e w' => (∃ v, e = .returned v ∧ (gr = true → GX row w w') ∧ next (a.put o.dst v) w') ∨ (∃ ch, e = .panicked ch ∧ Z ch a w')) ∨
  (∃ l f tmps asg body, (execOp a.eval o).run P w = .ok (.round l f tmps asg body) w ∧ RoundIn Fence.wide 0 P l f tmps asg body w fun e w' => ∃ v, e = .returned v ∧ (gr = true → GX row w w') ∧ next (a.put o.dst v) w')
theorem EffQ.wpIn {P : Program} {Z : List PanicEntry → Act → World → Prop} {row : Option Nat} {gr : Bool} {o : Oper} {a : Act} {w : World} {next : Act → World → Prop} {Q : Exit → Act → World → Prop} {ρ : Option Nat}
    (h : EffQ P Z row gr o a w next) (hZ : ∀ ch w', Z ch a w' → Q (.panic ch) a w') : o.wpIn (WF ρ) 0 P a w next Q := by
  refine Eff.wpIn (Z := Z) (gr := false) ?_ hZ
  rcases h with ⟨v, w', hr, _, hn⟩ | ⟨w', hr, _, hn⟩ | ⟨f, args, hr, hc⟩ | ⟨l, f, tmps, asg, body, hr, hc⟩
  · exact .inl ⟨v, w', hr, (fun h => by cases h), hn⟩
  · exact .inr (.inl ⟨w', hr, (fun h => by cases h), hn⟩)
  · refine .inr (.inr (.inl ⟨f, args, hr, Calls.mono hc fun e w' h => ?_⟩))
    rcases h with ⟨v, e1, _, h1⟩ | ⟨ch, e1, h1⟩
    · exact .inl ⟨v, e1, (fun h => by cases h), h1⟩
    · exact .inr ⟨ch, e1, h1⟩
  · refine .inr (.inr (.inr ⟨l, f, tmps, asg, body, hr, RoundIn.mono hc fun e w' h => ?_⟩))
    obtain ⟨v, e1, _, h1⟩ := h
    exact ⟨v, e1, (fun h => by cases h), h1⟩
theorem EffQ.turn {P : Program} {Z Z' : List PanicEntry → Act → World → Prop} {row : Option Nat} {gr : Bool} {o : Oper} {a b : Act} {w : World} {next next' : Act → World → Prop} (he : execOp b.eval o = execOp a.eval o)
    (hz : ∀ ch w', Z ch a w' → Z' ch b w')
    (hn : ∀ v w', (gr = true → GX row w w') → next (a.put o.dst v) w' → next' (b.put o.dst v) w') (h : EffQ P Z row gr o a w next) : EffQ P Z' row gr o b w next' := by
  rcases h with ⟨v, w', hr, hg, h1⟩ | ⟨w', hr, hg, h1⟩ | ⟨f, args, hr, hc⟩ | ⟨l, f, tmps, asg, body, hr, hc⟩
  · exact .inl ⟨v, w', by rw [he]; exact hr, hg, hn _ _ hg h1⟩
  · exact .inr (.inl ⟨w', by rw [he]; exact hr, hg, hn _ _ hg h1⟩)
  · refine .inr (.inr (.inl ⟨f, args, by rw [he]; exact hr, Calls.mono hc fun e w' h => ?_⟩))
    rcases h with ⟨v, e1, hg, h1⟩ | ⟨ch, e1, h1⟩
    · exact .inl ⟨v, e1, hg, hn _ _ hg h1⟩
    · exact .inr ⟨ch, e1, hz _ _ h1⟩
  · refine .inr (.inr (.inr ⟨l, f, tmps, asg, body, by rw [he]; exact hr, RoundIn.mono hc fun e w' h => ?_⟩))
    obtain ⟨v, e1, hg, h1⟩ := h
    exact ⟨v, e1, hg, hn _ _ hg h1⟩
def Avail (wt : Nat → Nat → Bool) (L : List Nat) (j : Nat) : Prop := ∀ i ∈ L, wt j i = false
section
variable (P : Program) (Z : List PanicEntry → Act → World → Prop) (ops : Array Oper) (cl : Nat → Nat) (wt : Nat → Nat → Bool) (row : Option Nat) (K : Act → World → Prop)
def RT : Nat → List Nat → Act → World → Prop
  | 0, L, a, w => L = [] ∧ K a w
  | n + 1, L, a, w =>
    (∃ r, r ∈ L ∧ Avail wt L r ∧ (cl r = 0 ∨ cl r = 3) ∧ ∃ o, ops[r]? = some o ∧ ∃ v, (Region.wanted o (yielded ops a.tmps) = true → ∀ w1, cl r = 3 ∨ GX row w w1 → (execOp a.eval o).run P w1 = .ok (.value v) w1) ∧
      (Region.wanted o (yielded ops a.tmps) = false → v = undef) ∧ RT n (L.erase r) (a.put o.dst v) w) ∨
    ((∀ r ∈ L, Avail wt L r → ¬ (cl r = 0 ∨ cl r = 3)) ∧ ∀ j ∈ L, Avail wt L j → ∃ o, ops[j]? = some o ∧
      if Region.wanted o (yielded ops a.tmps) = true then EffQ P Z row (cl j == 1) o a w (fun a' w' => RT n (L.erase j) a' w') else RT n (L.erase j) (a.put o.dst undef) w)
end
section
variable {P : Program} {Z : List PanicEntry → Act → World → Prop} {ops : Array Oper} {cl : Nat → Nat} {wt : Nat → Nat → Bool} {row : Option Nat} {K : Act → World → Prop}
structure OkayT (ops : Array Oper) (cl : Nat → Nat) (wt : Nat → Nat → Bool) : Prop where
  sel : ∀ (j : Nat) (o : Oper) cs b, ops[j]? = some o → o.op ≠ .select cs b
  way : ∀ (j : Nat) (o : Oper) (i : Nat), ops[j]? = some o → wt j i = true → ∃ e, e ∈ o.after ∧ Region.binds .any e = true ∧ (e.on = i ∨ wt e.on i = true)
  lt : ∀ (j : Nat) (o : Oper) (e : Edge), ops[j]? = some o → e ∈ o.after → Region.binds .any e = true → e.on < j
  pair : ∀ (i j : Nat) (oi oj : Oper), i < j → ops[i]? = some oi → ops[j]? = some oj → wt j i = false → (¬ (cl i = 0 ∨ cl i = 3) ∧ ¬ (cl j = 0 ∨ cl j = 3)) ∨ (oi.apart ops oj = true ∧ (cl i = 3 ∨ cl j = 3 ∨ (cl i = 0 ∧ cl j ≤ 1) ∨ (cl j = 0 ∧ cl i ≤ 1)))
/-- What a read and another operation that may come in either order share: nothing. -/
theorem OkayT.both (ok : OkayT ops cl wt) {r j : Nat} {or oj : Oper} (hr : ops[r]? = some or) (hj : ops[j]? = some oj) (hne : r ≠ j) (h1 : wt r j = false) (h2 : wt j r = false) (hc : cl r = 0 ∨ cl r = 3) :
    ((∀ d, or.dst = some d → d ∉ oj.looksAt ops) ∧ (∀ d, or.dst = some d → oj.dst ≠ some d) ∧ (∀ d, oj.dst = some d → d ∉ or.looksAt ops)) ∧ (cl r = 3 ∨ (cl r = 0 ∧ (cl j = 3 ∨ cl j ≤ 1))) := by
  rcases Nat.lt_or_gt_of_ne hne with hlt | hlt
  · rcases ok.pair r j or oj hlt hr hj h2 with h | ⟨h, hh⟩
    · exact absurd hc h.1
    · refine ⟨Oper.apart_spec h, ?_⟩
      rcases hc with hc | hc
      · right; refine ⟨hc, ?_⟩; omega
      · exact .inl hc
  · rcases ok.pair j r oj or hlt hj hr h1 with h | ⟨h, hh⟩
    · exact absurd hc h.2
    · obtain ⟨p1, p2, p3⟩ := Oper.apart_spec h
      refine ⟨⟨p3, fun d hd he => p2 d he hd, p1⟩, ?_⟩
      rcases hc with hc | hc
      · right; refine ⟨hc, ?_⟩; omega
      · exact .inl hc
theorem Avail.erase {L : List Nat} {j r : Nat} (h : Avail wt L j) : Avail wt (L.erase r) j := fun i hi => h i (List.mem_of_mem_erase hi)
theorem gx_trans {row : Option Nat} {a b c : World} (h : GX row a b) (k : GX row b c) : GX row a c := grownBy_trans h k
theorem front_rdT (ok : OkayT ops cl wt) {j : Nat} {oj : Oper} (hj : ops[j]? = some oj) (hcj : cl j = 0 ∨ cl j = 3) :
    ∀ (n : Nat) (L : List Nat) (a : Act) (w : World), L.length = n + 1 → L.Nodup → j ∈ L → Avail wt L j → RT P Z ops cl wt row K (n + 1) L a w →
    ∃ v, (Region.wanted oj (yielded ops a.tmps) = true → ∀ w1, cl j = 3 ∨ GX row w w1 → (execOp a.eval oj).run P w1 = .ok (.value v) w1) ∧
      (Region.wanted oj (yielded ops a.tmps) = false → v = undef) ∧ RT P Z ops cl wt row K n (L.erase j) (a.put oj.dst v) w := by
  intro n
  induction n with
  | zero =>
    intro L a w hn nd hm hav h
    obtain ⟨x, rfl⟩ : ∃ x, L = [x] := List.length_eq_one_iff.1 hn
    obtain rfl : j = x := List.mem_singleton.1 hm
    rcases h with ⟨r, hr, hra, hc, o, ho, v, h1, h2, h3⟩ | ⟨hno, _⟩
    · obtain rfl : r = j := List.mem_singleton.1 hr
      obtain rfl : o = oj := Option.some.inj (ho.symm.trans hj)
      exact ⟨v, h1, h2, h3⟩
    · exact absurd hcj (hno j hm hav)
  | succ n ih =>
    intro L a w hn nd hm hav h
    rcases h with ⟨r, hr, hra, hc, o, ho, u, h1, h2, h3⟩ | ⟨hno, _⟩
    · by_cases hrj : r = j
      · subst hrj
        obtain rfl : o = oj := Option.some.inj (ho.symm.trans hj)
        exact ⟨u, h1, h2, h3⟩
      · obtain ⟨⟨p1, p2, p3⟩, _⟩ := ok.both ho hj hrj (hra j hm) (hav r hr) hc
        have evj : ∀ v, execOp (a.put o.dst v).eval oj = execOp a.eval oj := fun v => execOp_put (ops := ops) oj (fun cs b => ok.sel j oj cs b hj) a o.dst v p1
        have waj : ∀ v, Region.wanted oj (yielded ops (a.put o.dst v).tmps) = Region.wanted oj (yielded ops a.tmps) := fun v => wanted_put oj a o.dst v p1
        have evi : ∀ v, execOp (a.put oj.dst v).eval o = execOp a.eval o := fun v => execOp_put (ops := ops) o (fun cs b => ok.sel r o cs b ho) a oj.dst v p3
        have wai : ∀ v, Region.wanted o (yielded ops (a.put oj.dst v).tmps) = Region.wanted o (yielded ops a.tmps) := fun v => wanted_put o a oj.dst v p3
        have hmj : j ∈ L.erase r := nd.mem_erase_iff.2 ⟨fun h => hrj h.symm, hm⟩
        have hmr : r ∈ L.erase j := nd.mem_erase_iff.2 ⟨hrj, hr⟩
        obtain ⟨v, k1, k2, k3⟩ := ih (L.erase r) _ w (by rw [List.length_erase_of_mem hr]; omega) (nd.erase r) hmj hav.erase h3
        rw [waj] at k1 k2
        rw [evj] at k1
        refine ⟨v, k1, k2, .inl ⟨r, hmr, hra.erase, hc, o, ho, u, ?_, ?_, ?_⟩⟩
        · rw [wai, evi]; exact h1
        · rw [wai]; exact h2
        · rw [List.erase_comm, ← Act.put_comm a u v p2]; exact k3
    · exact absurd hcj (hno j hm hav)
theorem front_effT (hZs : ∀ ch (a : Act) d v w, Z ch (a.put d v) w → Z ch a w) (ok : OkayT ops cl wt) {j : Nat} {oj : Oper} (hj : ops[j]? = some oj) (hcj : ¬ (cl j = 0 ∨ cl j = 3)) :
    ∀ (n : Nat) (L : List Nat) (a : Act) (w : World), L.length = n + 1 → L.Nodup → j ∈ L → Avail wt L j → RT P Z ops cl wt row K (n + 1) L a w →
    if Region.wanted oj (yielded ops a.tmps) = true then EffQ P Z row (cl j == 1) oj a w (fun a' w' => RT P Z ops cl wt row K n (L.erase j) a' w')
    else RT P Z ops cl wt row K n (L.erase j) (a.put oj.dst undef) w := by
  intro n
  induction n with
  | zero =>
    intro L a w hn nd hm hav h
    obtain ⟨x, rfl⟩ : ∃ x, L = [x] := List.length_eq_one_iff.1 hn
    obtain rfl : j = x := List.mem_singleton.1 hm
    rcases h with ⟨r, hr, hra, hc, _⟩ | ⟨_, hall⟩
    · obtain rfl : r = j := List.mem_singleton.1 hr
      exact absurd hc hcj
    · obtain ⟨o, ho, hb⟩ := hall j hm hav
      obtain rfl : o = oj := Option.some.inj (ho.symm.trans hj)
      exact hb
  | succ n ih =>
    intro L a w hn nd hm hav h
    rcases h with ⟨r, hr, hra, hc, o, ho, u, h1, h2, h3⟩ | ⟨_, hall⟩
    · have hrj : r ≠ j := fun e => hcj (e ▸ hc)
      obtain ⟨⟨p1, p2, p3⟩, hq⟩ := ok.both ho hj hrj (hra j hm) (hav r hr) hc
      have evj : ∀ v, execOp (a.put o.dst v).eval oj = execOp a.eval oj := fun v => execOp_put (ops := ops) oj (fun cs b => ok.sel j oj cs b hj) a o.dst v p1
      have waj : ∀ v, Region.wanted oj (yielded ops (a.put o.dst v).tmps) = Region.wanted oj (yielded ops a.tmps) := fun v => wanted_put oj a o.dst v p1
      have evi : ∀ v, execOp (a.put oj.dst v).eval o = execOp a.eval o := fun v => execOp_put (ops := ops) o (fun cs b => ok.sel r o cs b ho) a oj.dst v p3
      have wai : ∀ v, Region.wanted o (yielded ops (a.put oj.dst v).tmps) = Region.wanted o (yielded ops a.tmps) := fun v => wanted_put o a oj.dst v p3
      have hmj : j ∈ L.erase r := nd.mem_erase_iff.2 ⟨fun h => hrj h.symm, hm⟩
      have hmr : r ∈ L.erase j := nd.mem_erase_iff.2 ⟨hrj, hr⟩
      have k := ih (L.erase r) _ w (by rw [List.length_erase_of_mem hr]; omega) (nd.erase r) hmj hav.erase h3
      rw [waj] at k
      have back : ∀ x w', (cl j = 1 → GX row w w') → RT P Z ops cl wt row K n ((L.erase r).erase j) ((a.put o.dst u).put oj.dst x) w' → RT P Z ops cl wt row K (n + 1) (L.erase j) (a.put oj.dst x) w' := by
        intro x w' hg hk
        refine .inl ⟨r, hmr, hra.erase, hc, o, ho, u, ?_, ?_, ?_⟩
        · rw [wai, evi]
          intro hw w1 hg1
          refine h1 hw w1 ?_
          rcases hg1 with hg1 | hg1
          · exact .inl hg1
          · rcases hq with hq | ⟨_, hq⟩
            · exact .inl hq
            · refine .inr (gx_trans (hg ?_) hg1)
              have : ¬ cl j = 0 := fun e => hcj (.inl e)
              have : ¬ cl j = 3 := fun e => hcj (.inr e)
              omega
        · rw [wai]; exact h2
        · rw [List.erase_comm, ← Act.put_comm a u x p2]; exact hk
      by_cases hwj : Region.wanted oj (yielded ops a.tmps) = true
      · rw [if_pos hwj] at k ⊢
        exact k.turn (evj u).symm (fun ch w' h => hZs _ _ _ _ _ h) fun x w' hg hk => back x w' (fun h => hg (by simp [h])) hk
      · rw [if_neg hwj] at k ⊢
        exact back _ _ (fun _ => GX.refl _ _) k
    · obtain ⟨o, ho, hb⟩ := hall j hm hav
      obtain rfl : o = oj := Option.some.inj (ho.symm.trans hj)
      exact hb
theorem Left.waitsT (ok : OkayT ops cl wt) {L : List Nat} {listed : Array Bool} (hL : Left ops L listed) :
    ∀ (n j : Nat) (oj : Oper), j ≤ n → ops[j]? = some oj → (∀ e ∈ oj.after, Region.binds .any e = true → e.on ∉ L) → ∀ i ∈ L, wt j i = false := by
  intro n
  induction n with
  | zero =>
    intro j oj hjn hj _ i _
    cases hw : wt j i with
    | false => rfl
    | true =>
      obtain ⟨e, he, hb, _⟩ := ok.way j oj i hj hw
      have := ok.lt j oj e hj he hb
      omega
  | succ n ih =>
    intro j oj hjn hj hall i hi
    cases hw : wt j i with
    | false => rfl
    | true =>
      obtain ⟨e, he, hb, hh⟩ := ok.way j oj i hj hw
      have hlt := ok.lt j oj e hj he hb
      have hnot := hall e he hb
      rcases hh with rfl | hh
      · exact absurd hi hnot
      · have hes : e.on < ops.size := by have := (Array.getElem?_eq_some_iff.1 hj).1; omega
        have hoe : ops[e.on]? = some ops[e.on] := Array.getElem?_eq_getElem hes
        have := ih e.on _ (by omega) hoe (hL.closed e.on _ hoe hnot) i hi
        rw [this] at hh; cases hh
theorem any_of_RT {ρ : Option Nat} (hZs : ∀ ch (a : Act) d v w, Z ch (a.put d v) w → Z ch a w) (ok : OkayT ops cl wt) {Q : Exit → Act → World → Prop} (hQ : ∀ a w, K a w → Q .normal a w) (hZ : ∀ ch a w, Z ch a w → Q (.panic ch) a w) :
    ∀ (n : Nat) (L : List Nat) (listed : Array Bool) (a : Act) (w : World), L.length = n → Left ops L listed → RT P Z ops cl wt row K n L a w → wpAnyIn (WF ρ) 0 P .any ops Q n listed a w := by
  intro n
  induction n with
  | zero =>
    intro L listed a w hn hL h
    obtain rfl : L = [] := List.eq_nil_of_length_eq_zero hn
    refine ⟨?_, hQ _ _ h.2⟩
    refine List.eq_nil_iff_forall_not_mem.2 fun j hj => ?_
    obtain ⟨h0, o, ho, _⟩ := mem_ready.1 hj
    have := (hL.mem j).2 ⟨(Array.getElem?_eq_some_iff.1 ho).1, h0⟩
    cases this
  | succ n ih =>
    intro L listed a w hn hL h
    have nd : L.Nodup := hL.sorted.imp (fun h => Nat.ne_of_lt h)
    have inL : ∀ j, j ∈ Region.ready .any ops listed → ∃ oj, ops[j]? = some oj ∧ j ∈ L ∧ ∀ e ∈ oj.after, Region.binds .any e = true → e.on ∉ L := by
      intro j hj
      obtain ⟨h0, oj, ho, hall⟩ := mem_ready.1 hj
      have hjs := (Array.getElem?_eq_some_iff.1 ho).1
      refine ⟨oj, ho, (hL.mem j).2 ⟨hjs, h0⟩, fun e he hb hm => ?_⟩
      have h1 := hall e he hb
      obtain ⟨h2, h3⟩ := (hL.mem e.on).1 hm
      have h4 : e.on < listed.size := by rw [hL.size]; exact h2
      simp [h4] at h1 h3
      rw [h1] at h3; cases h3
    refine ⟨fun h0 => ?_, fun j hj => ?_⟩
    · exfalso
      match L, hn, hL with
      | i :: rest, _, hL =>
        have him := (hL.mem i).1 List.mem_cons_self
        have hoi : ops[i]? = some ops[i] := Array.getElem?_eq_getElem him.1
        have : i ∈ Region.ready .any ops listed := by
          refine mem_ready.2 ⟨him.2, _, hoi, fun e he hb => ?_⟩
          have hlt := ok.lt i _ e hoi he hb
          have hno : e.on ∉ i :: rest := by
            intro hm
            rcases List.mem_cons.1 hm with hm | hm
            · omega
            · have := (List.pairwise_cons.1 hL.sorted).1 _ hm; omega
          have hes : e.on < listed.size := by rw [hL.size]; omega
          cases hl : listed.getD e.on true with
          | false => exact absurd ((hL.mem e.on).2 ⟨by rw [← hL.size]; exact hes, hl⟩) hno
          | true => simpa [hes] using hl
        rw [h0] at this; cases this
    · obtain ⟨oj, hoj, hjL, hall⟩ := inL j hj
      have hws : ∀ i ∈ L, wt j i = false := hL.waitsT ok j j oj (Nat.le_refl _) hoj hall
      have hL' := hL.step hoj hall
      have hlen : (L.erase j).length = n := by rw [List.length_erase_of_mem hjL]; omega
      unfold wpOpIn
      simp only [hoj]
      by_cases hc : cl j = 0 ∨ cl j = 3
      · obtain ⟨v, h1, h2, h3⟩ := front_rdT ok hoj hc n L a w hn nd hjL hws h
        have hnext := ih (L.erase j) _ (a.put oj.dst v) w hlen hL' h3
        by_cases hwj : Region.wanted oj (yielded ops a.tmps) = true
        · rw [if_pos hwj]
          have hr := h1 hwj w (.inr (GX.refl _ _))
          refine ⟨fun _ _ => trivial, ?_⟩
          rw [semAt_of hr (fun d h => by cases h), hr]
          exact hnext
        · rw [if_neg hwj]
          have := h2 (by simpa using hwj)
          subst this
          exact ⟨fun _ _ => trivial, hnext⟩
      · have h1 := front_effT hZs ok hoj hc n L a w hn nd hjL hws h
        by_cases hwj : Region.wanted oj (yielded ops a.tmps) = true
        · rw [if_pos hwj] at h1 ⊢
          refine EffQ.wpIn (Z := Z) (gr := cl j == 1) (row := row) ?_ (fun ch w' h => hZ _ _ _ h)
          exact h1.turn rfl (fun _ _ h => h) fun v w' _ hk => ih (L.erase j) _ _ w' hlen hL' hk
        · rw [if_neg hwj] at h1 ⊢
          exact ⟨fun _ _ => trivial, ih (L.erase j) _ _ w hlen hL' h1⟩
theorem wpIn_drawT {ρ : Option Nat} (hZs : ∀ ch (a : Act) d v w, Z ch (a.put d v) w → Z ch a w) (ok : OkayT ops cl wt) {id : Nat} {Q : Exit → Act → World → Prop} (hZ : ∀ ch a w, Z ch a w → Q (.panic ch) a w) {a : Act} {w : World} (hm : P.follows .mixedOrders = true)
    (h : RT P Z ops cl wt row (fun a w => Q .normal a w) ops.size (List.range ops.size) a w.drew) : (Code.region id ops true).wpIn (WF ρ) 0 P Q a w := by
  refine wpIn_region_any hm ?_
  have := any_of_RT (Q := Q) (ρ := ρ) hZs ok (fun _ _ h => h) hZ ops.size (List.range ops.size) (Array.replicate ops.size false) a w.drew (by simp) (left_start ops) h
  simpa using this
theorem wp_drawT (ok : OkayT ops cl wt) {id : Nat} {Q : Exit → Act → World → Prop} {a : Act} {w : World} (hm : P.follows .mixedOrders = true)
    (h : RT P NoP ops cl wt row (fun a w => Q .normal a w) ops.size (List.range ops.size) a w.drew) : (Code.region id ops true).wp P Q a w :=
  wpIn_wide.1 (wpIn_drawT (ρ := none) (fun _ _ _ _ _ h => h) ok (fun _ _ _ h => h.elim) hm h)
end

/-! a look at the region's text -/
def lookT (ops : Array Oper) (cl : List Nat) (ms : List Nat) (E : List (Nat × Oper × Nat)) (k : Nat) (o : Oper) : Bool :=
  noSel o && o.after.toList.all (fun e => !Region.binds .any e || Nat.blt e.on k) && Nat.beq (ms.getD k 0) (maskOf ms o.after.toList) &&
  E.all (fun p => (ms.getD k 0).testBit p.1 || (!(Nat.beq p.2.2 0 || Nat.beq p.2.2 3) && !(Nat.beq (clOf cl k) 0 || Nat.beq (clOf cl k) 3)) || (p.2.1.apart ops o && (Nat.beq p.2.2 3 || Nat.beq (clOf cl k) 3 || (Nat.beq p.2.2 0 && Nat.ble (clOf cl k) 1) || (Nat.beq (clOf cl k) 0 && Nat.ble p.2.2 1))))
def lookFromT (ops : Array Oper) (cl : List Nat) (ms : List Nat) : List (Nat × Oper × Nat) → Nat → List Oper → Bool
  | _, _, [] => true
  | E, k, o :: rest => lookT ops cl ms E k o && lookFromT ops cl ms ((k, o, clOf cl k) :: E) (k + 1) rest
def okT (l : List Oper) (cl : List Nat) (ms : List Nat) : Bool := lookFromT l.toArray cl ms [] 0 l && Nat.ble ms.length l.length
theorem lookFromT_spec (ops : Array Oper) (cl : List Nat) (ms : List Nat) : ∀ (l : List Oper) (E : List (Nat × Oper × Nat)) (k : Nat),
    (∀ j, l[j]? = ops[k + j]?) → (∀ i, i < k → ∃ oi, ops[i]? = some oi ∧ (i, oi, clOf cl i) ∈ E) → lookFromT ops cl ms E k l = true →
    ∀ j oj, k ≤ j → ops[j]? = some oj → ∃ E', (∀ i, i < j → ∃ oi, ops[i]? = some oi ∧ (i, oi, clOf cl i) ∈ E') ∧ lookT ops cl ms E' j oj = true
  | [], _, k, hl, _, _ => by
    intro j oj hkj hj
    have := hl (j - k)
    rw [show k + (j - k) = j by omega, hj] at this
    simp at this
  | o :: rest, E, k, hl, hE, h => by
    intro j oj hkj hj
    unfold lookFromT at h
    rw [Bool.and_eq_true] at h
    have h0 : ops[k]? = some o := by simpa using (hl 0).symm
    by_cases hjk : j = k
    · subst hjk
      obtain rfl : o = oj := Option.some.inj (h0.symm.trans hj)
      exact ⟨E, hE, h.1⟩
    · refine lookFromT_spec ops cl ms rest ((k, o, clOf cl k) :: E) (k + 1) (fun j => by have := hl (j + 1); simpa [Nat.add_assoc, Nat.add_comm 1 j] using this) ?_ h.2 j oj (by omega) hj
      intro i hi
      by_cases hik : i = k
      · subst hik
        exact ⟨o, h0, List.mem_cons_self⟩
      · obtain ⟨oi, h1, h2⟩ := hE i (by omega)
        exact ⟨oi, h1, List.mem_cons_of_mem _ h2⟩
theorem okayT_of {l : List Oper} {cl : List Nat} {ms : List Nat} (h : okT l cl ms = true) : OkayT l.toArray (clOf cl) (wtOf ms) := by
  unfold okT at h
  rw [Bool.and_eq_true] at h
  obtain ⟨h, hml⟩ := h
  have S := lookFromT_spec l.toArray cl ms l [] 0 (by simp) (fun i hi => absurd hi (by omega)) h
  have at_ : ∀ j oj, l.toArray[j]? = some oj → ∃ E', (∀ i, i < j → ∃ oi, l.toArray[i]? = some oi ∧ (i, oi, clOf cl i) ∈ E') ∧ lookT l.toArray cl ms E' j oj = true := fun j oj hj => S j oj (Nat.zero_le _) hj
  refine ⟨?_, ?_, ?_, ?_⟩
  · intro j o cs b hj heq
    obtain ⟨E', _, hh⟩ := at_ j o hj
    simp [lookT, noSel, heq] at hh
  · intro j o i hj hw
    obtain ⟨E', _, hh⟩ := at_ j o hj
    simp only [lookT, Bool.and_eq_true] at hh
    have hm := Nat.eq_of_beq_eq_true hh.1.2
    unfold wtOf at hw
    rw [hm] at hw
    obtain ⟨e, h1, h2⟩ := mask_spec ms i _ hw
    exact ⟨e, Array.mem_toList_iff.1 h1, h2⟩
  · intro j o e hj he hb
    obtain ⟨E', _, hh⟩ := at_ j o hj
    simp only [lookT, Bool.and_eq_true, List.all_eq_true, Array.mem_toList_iff, Bool.or_eq_true, Bool.not_eq_true'] at hh
    rcases hh.1.1.2 e he with h1 | h1
    · rw [hb] at h1; cases h1
    · exact Nat.le_of_ble_eq_true h1
  · intro i j oi oj hij hi hj hw
    obtain ⟨E', hE, hh⟩ := at_ j oj hj
    simp only [lookT, Bool.and_eq_true, List.all_eq_true] at hh
    obtain ⟨oi', h1, h2⟩ := hE i hij
    obtain rfl : oi' = oi := Option.some.inj (h1.symm.trans hi)
    have h3 := hh.2 _ h2
    unfold wtOf at hw
    dsimp only at h3
    rw [hw] at h3
    have e : ∀ (a b : Nat), Nat.beq a b = true ↔ a = b := fun a b => ⟨Nat.eq_of_beq_eq_true, fun h => by subst h; exact Nat.beq_refl a⟩
    have e' : ∀ (a b : Nat), Nat.ble a b = true ↔ a ≤ b := fun a b => ⟨Nat.le_of_ble_eq_true, Nat.ble_eq_true_of_le⟩
    simp only [Bool.false_or, Bool.or_eq_true, Bool.and_eq_true, Bool.not_eq_true', ← Bool.not_eq_true, e, e'] at h3
    rcases h3 with h3 | ⟨ha, h3⟩
    · exact .inl ⟨h3.1, h3.2⟩
    · refine .inr ⟨ha, ?_⟩
      rcases h3 with ((h3 | h3) | h3) | h3
      · exact .inl h3
      · exact .inr (.inl h3)
      · exact .inr (.inr (.inl h3))
      · exact .inr (.inr (.inr h3))
/-! the steps -/
def isRdB (cl : List Nat) (j : Nat) : Bool := Nat.beq (clOf cl j) 0 || Nat.beq (clOf cl j) 3
def availB (ms : List Nat) (L : List Nat) (j : Nat) : Bool := L.all fun i => !(wtOf ms j i)
def candB (cl ms L : List Nat) : List Nat := L.filter fun j => availB ms L j
theorem avail_iff (ms : List Nat) (L : List Nat) (j : Nat) : availB ms L j = true ↔ Avail (wtOf ms) L j := by
  unfold availB Avail; simp [List.all_eq_true]
theorem isRdB_iff (cl : List Nat) (j : Nat) : isRdB cl j = true ↔ (clOf cl j = 0 ∨ clOf cl j = 3) := by
  unfold isRdB; rw [Bool.or_eq_true]
  exact ⟨fun h => h.imp Nat.eq_of_beq_eq_true Nat.eq_of_beq_eq_true, fun h => h.imp (fun e => by rw [e]; rfl) (fun e => by rw [e]; rfl)⟩
def ST (P : Program) (Z : List PanicEntry → Act → World → Prop) (ops : List Oper) (cl ms : List Nat) (row : Option Nat) (n : Nat) (K : Act → World → Prop) (m : Nat) (L : List Nat) (σ : List Ent) (w : World) : Prop :=
  ∀ a, Kn n σ a → RT P Z ops.toArray (clOf cl) (wtOf ms) row K m L a w
section
variable {P : Program} {Z : List PanicEntry → Act → World → Prop} {ops : List Oper} {cl ms : List Nat} {row : Option Nat} {n : Nat} {K : Act → World → Prop} {m : Nat} {L L' : List Nat} {σ : List Ent} {w : World} {d : Nat} {op : Op} {ty : TypeId} {pos : String} {after : Array Edge} {v : Value}
theorem st_nil (h : ∀ a, Kn n σ a → K a w) : ST P Z ops cl ms row n K 0 [] σ w := fun a ha => ⟨rfl, h a ha⟩
theorem st_sub (τ : List Ent) (hs : Sub τ σ) (h : ST P Z ops cl ms row n K m L τ w) : ST P Z ops cl ms row n K m L σ w := fun a ha => h a (ha.sub hs)
theorem st_rd (r : Nat) (hr : ops.toArray[r]? = some ⟨some d, op, ty, pos, after, none⟩) (hb : (L.contains r && availB ms L r && Nat.beq (clOf cl r) 0 && Nat.blt d n) = true) (hL : L.erase r = L')
    (hv : ∀ w1, GX row w w1 → Rd P n σ True w1 op ty v) (h : ST P Z ops cl ms row n K m L' ((d, True, v) :: σ) w) : ST P Z ops cl ms row n K (m + 1) L σ w := fun a ha => by
  simp only [Bool.and_eq_true] at hb
  obtain ⟨⟨⟨h1, h2⟩, h3⟩, h4⟩ := hb
  refine .inl ⟨r, by simpa using h1, (avail_iff ms L r).1 h2, .inl (Nat.eq_of_beq_eq_true h3), _, hr, v, fun _ w1 hg => ?_, (fun hn => by cases hn), hL ▸ h _ (ha.put h4 (fun _ => rfl) (fun hn => absurd trivial hn))⟩
  rcases hg with hg | hg
  · rw [Nat.eq_of_beq_eq_true h3] at hg; cases hg
  · exact hv w1 hg _ _ _ _ a ha trivial w1 (G.refl _)
theorem st_pu (r : Nat) (hr : ops.toArray[r]? = some ⟨some d, op, ty, pos, after, none⟩) (hb : (L.contains r && availB ms L r && Nat.beq (clOf cl r) 3 && Nat.blt d n) = true) (hL : L.erase r = L')
    (hv : ∀ wb, Rd P n σ True wb op ty v) (h : ST P Z ops cl ms row n K m L' ((d, True, v) :: σ) w) : ST P Z ops cl ms row n K (m + 1) L σ w := fun a ha => by
  simp only [Bool.and_eq_true] at hb
  obtain ⟨⟨⟨h1, h2⟩, h3⟩, h4⟩ := hb
  exact .inl ⟨r, by simpa using h1, (avail_iff ms L r).1 h2, .inr (Nat.eq_of_beq_eq_true h3), _, hr, v, fun _ w1 hg => hv w1 _ _ _ _ a ha trivial w1 (G.refl _), (fun hn => by cases hn), hL ▸ h _ (ha.put h4 (fun _ => rfl) (fun hn => absurd trivial hn))⟩
open Classical in
open Classical in
/-- One effect in its turn. -/
def STE (P : Program) (Z : List PanicEntry → Act → World → Prop) (ops : List Oper) (cl ms : List Nat) (row : Option Nat) (n : Nat) (K : Act → World → Prop) (m : Nat) (L : List Nat) (σ : List Ent) (w : World) (j : Nat) : Prop :=
  ∀ a, Kn n σ a → ∃ o, ops.toArray[j]? = some o ∧ if Region.wanted o (yielded ops.toArray a.tmps) = true then EffQ P Z row (clOf cl j == 1) o a w (fun a' w' => RT P Z ops.toArray (clOf cl) (wtOf ms) row K m (L.erase j) a' w')
    else RT P Z ops.toArray (clOf cl) (wtOf ms) row K m (L.erase j) (a.put o.dst undef) w
theorem st_eff (cs : List Nat) (hb : L.all (fun r => !(availB ms L r && isRdB cl r)) = true) (hc : candB cl ms L = cs) (h : ∀ j ∈ cs, STE P Z ops cl ms row n K m L σ w j) : ST P Z ops cl ms row n K (m + 1) L σ w := fun a ha => by
  refine .inr ⟨fun r hr hav hrd => ?_, fun j hj hav => ?_⟩
  · have := List.all_eq_true.1 hb r hr
    rw [(avail_iff ms L r).2 hav, (isRdB_iff cl r).2 hrd] at this; cases this
  · exact h j (by rw [← hc]; exact List.mem_filter.2 ⟨hj, (avail_iff ms L j).2 hav⟩) a ha
theorem st_eff1 (j : Nat) (hb : L.all (fun r => !(availB ms L r && isRdB cl r)) = true) (hc : candB cl ms L = [j]) (h : STE P Z ops cl ms row n K m L σ w j) : ST P Z ops cl ms row n K (m + 1) L σ w :=
  st_eff [j] hb hc fun i hi => by rw [List.mem_singleton.1 hi]; exact h
theorem st_eff2 (j k : Nat) (hb : L.all (fun r => !(availB ms L r && isRdB cl r)) = true) (hc : candB cl ms L = [j, k]) (h : STE P Z ops cl ms row n K m L σ w j) (h' : STE P Z ops cl ms row n K m L σ w k) : ST P Z ops cl ms row n K (m + 1) L σ w :=
  st_eff [j, k] hb hc fun i hi => by
    rcases List.mem_cons.1 hi with rfl | hi
    · exact h
    · rw [List.mem_singleton.1 hi]; exact h'
/-- Out of a step of the other engine. -/
theorem ste_of_sr {j : Nat} {o : Oper} (cl2 : List Nat) (ho : ops.toArray[j]? = some o) (hL : L.erase j = L') (hc : (Nat.beq (clOf cl2 j) 0 || Nat.beq (clOf cl2 j) 3) = false)
    (h : SR P Z ops cl2 [] w n (fun a' w' => GX row w w' ∧ RT P Z ops.toArray (clOf cl) (wtOf ms) row K m L' a' w') j [o] σ w) : STE P Z ops cl ms row n K m L σ w j := fun a ha => by
  subst hL
  have h1 := h (fun i o' h => by cases i with
    | zero => injection h with h; subst h; exact ho
    | succ i => cases h) a ha
  · have hc' : ¬ (clOf cl2 j = 0 ∨ clOf cl2 j = 3) := by
      intro e; rw [Bool.or_eq_false_iff] at hc
      rcases e with e | e <;> rw [e] at hc <;> simp at hc
    obtain ⟨o', ho', h2⟩ := h1
    obtain rfl : o' = o := Option.some.inj (ho'.symm.trans ho)
    rw [if_neg hc'] at h2
    refine ⟨o', ho, ?_⟩
    by_cases hw : Region.wanted o' (yielded ops.toArray a.tmps) = true
    · rw [if_pos hw] at h2 ⊢
      rcases h2 with ⟨v, w', hr, _, hn⟩ | ⟨w', hr, _, hn⟩ | ⟨f, args, hr, hcl⟩ | ⟨l, f, tmps, asg, body, hr, hcl⟩
      · exact .inl ⟨v, w', hr, fun _ => hn.1, hn.2⟩
      · exact .inr (.inl ⟨w', hr, fun _ => hn.1, hn.2⟩)
      · refine .inr (.inr (.inl ⟨f, args, hr, Calls.mono hcl fun e w' h => ?_⟩))
        rcases h with ⟨v, he, _, hn⟩ | h
        · exact .inl ⟨v, he, fun _ => hn.1, hn.2⟩
        · exact .inr h
      · exact .inr (.inr (.inr ⟨l, f, tmps, asg, body, hr, RoundIn.mono hcl fun e w' ⟨v, he, _, hn⟩ => ⟨v, he, fun _ => hn.1, hn.2⟩⟩))
    · rw [if_neg hw] at h2 ⊢
      exact h2.2
theorem ste2_of_sr {j : Nat} {o : Oper} (cl2 : List Nat) (ho : ops.toArray[j]? = some o) (hL : L.erase j = L') (hc : (Nat.beq (clOf cl2 j) 0 || Nat.beq (clOf cl2 j) 3) = false) (h1c : Nat.beq (clOf cl j) 1 = false)
    (h : SR P Z ops cl2 [] w n (fun a' w' => RT P Z ops.toArray (clOf cl) (wtOf ms) row K m L' a' w') j [o] σ w) : STE P Z ops cl ms row n K m L σ w j := fun a ha => by
  subst hL
  have h1 := h (fun i o' h => by cases i with
    | zero => injection h with h; subst h; exact ho
    | succ i => cases h) a ha
  have hc' : ¬ (clOf cl2 j = 0 ∨ clOf cl2 j = 3) := by
    intro e; rw [Bool.or_eq_false_iff] at hc
    rcases e with e | e <;> rw [e] at hc <;> simp at hc
  have h1c' : (clOf cl j == 1) = false := by
    cases h : (clOf cl j == 1) with
    | false => rfl
    | true => rw [eq_of_beq h] at h1c; cases h1c
  obtain ⟨o', ho', h2⟩ := h1
  obtain rfl : o' = o := Option.some.inj (ho'.symm.trans ho)
  rw [if_neg hc'] at h2
  refine ⟨o', ho, ?_⟩
  rw [h1c']
  by_cases hw : Region.wanted o' (yielded ops.toArray a.tmps) = true
  · rw [if_pos hw] at h2 ⊢
    rcases h2 with ⟨v, w', hr, _, hn⟩ | ⟨w', hr, _, hn⟩ | ⟨f, args, hr, hcl⟩ | ⟨l, f, tmps, asg, body, hr, hcl⟩
    · exact .inl ⟨v, w', hr, (fun h => by cases h), hn⟩
    · exact .inr (.inl ⟨w', hr, (fun h => by cases h), hn⟩)
    · refine .inr (.inr (.inl ⟨f, args, hr, Calls.mono hcl fun e w' h => ?_⟩))
      rcases h with ⟨v, he, _, hn⟩ | h
      · exact .inl ⟨v, he, (fun h => by cases h), hn⟩
      · exact .inr h
    · exact .inr (.inr (.inr ⟨l, f, tmps, asg, body, hr, RoundIn.mono hcl fun e w' ⟨v, he, _, hn⟩ => ⟨v, he, (fun h => by cases h), hn⟩⟩))
  · rw [if_neg hw] at h2 ⊢
    exact h2
theorem sr_nilT2 {cl2 : List Nat} {W0 : World} {k : Nat} (h : ST P Z ops cl ms row n K m L σ w) : SR P Z ops cl2 [] W0 n (fun a' w' => RT P Z ops.toArray (clOf cl) (wtOf ms) row K m L a' w') k [] σ w := sr_nil h
theorem sr_nilT {cl2 : List Nat} {W0 w0 : World} {k : Nat} (hg : GX row w0 w) (h : ST P Z ops cl ms row n K m L σ w) : SR P Z ops cl2 [] W0 n (fun a' w' => GX row w0 w' ∧ RT P Z ops.toArray (clOf cl) (wtOf ms) row K m L a' w') k [] σ w := sr_nil fun a ha => ⟨hg, h a ha⟩
end
section
variable {P : Program} {n : Nat} {N T : Act → World → Prop} {X : List (Nat × (Act → World → Prop))} {σ : List Ent} {w : World}
theorem sc_drawT {id : Nat} {l : List Oper} (row : Option Nat) (cl : List Nat) (ms : List Nat) (hm : P.follows .mixedOrders = true) (hok : okT l cl ms = true) (L : List Nat) (hL : List.range l.length = L)
    (h : ST P NoP l cl ms row n N l.length L σ w.drew) : SC P n (.region id l.toArray true) N X T σ w := fun a ha => by
  have h1 := h a ha
  subst hL
  have h2 : RT P NoP l.toArray (clOf cl) (wtOf ms) row (fun a w => (Qof N X T) .normal a w) l.toArray.size (List.range l.toArray.size) a w.drew := by simpa [Qof] using h1
  exact wp_drawT (okayT_of hok) hm h2
end
end Go.Rk
namespace Go.Rk
open Go Go.RowKit
set_option linter.unusedVariables false
def nestFs (P : Program) : Nat → List Field → Option (List (Option TypeId × List Nat))
  | _, [] => some []
  | k, f :: fs => if Nat.beq f.offset k && f.name != "_" then match flatKind P f.type with
      | some a => (nestFs P (k + 1) fs).map fun r => (none, [a]) :: r
      | none => match tyFlat P f.type, tyAgg P f.type with
        | some ks, some z => if Nat.beq z ks.length then (nestFs P (k + ks.length) fs).map fun r => (some f.type, ks) :: r else none
        | _, _ => none
    else none
def tyNest (P : Program) (t : TypeId) : Option (List (Option TypeId × List Nat)) := match P.underlying t with
  | some (.struct fs) => if P.stoodInHeld t = false ∧ P.eqGuardType P.depth t = false then nestFs P 0 fs.toList else none
  | _ => none
def eqN : List (Option TypeId × List Nat) → List Value → List Value → Option Bool
  | [], [], [] => some true
  | [], _, _ => none
  | (_, ks) :: r, l, l' => match eqL ks (l.take ks.length) (l'.take ks.length) with
    | some b => match eqN r (l.drop ks.length) (l'.drop ks.length) with
      | some c => some (b && c)
      | none => none
    | none => none
section
variable {P : Program} {n : Nat} {σ : List Ent} {c : Prop} {wb : World} {ty : TypeId} {v : Value}
end
end Go.Rk
namespace Go.Rk
open Go
@[reducible] noncomputable def PP : Program := Go.Proofs.Tryd.prog
theorem mix : PP.follows .mixedOrders = true := by kernel_rfl
@[reducible] def fn_l07_FoldValue : Nat := 3
@[reducible] def fn_l07_FoldArithmetic : Nat := 4
@[reducible] def fn_l07_FoldAgain : Nat := 5
@[reducible] def fn_l07_FoldConstants : Nat := 6
@[reducible] def fn_l07_FoldKeepsValue : Nat := 7
@[reducible] def fn_l03_SyntaxDepth : Nat := 8
@[reducible] def fn_l03_SyntaxEqual : Nat := 9
theorem func_l03_SyntaxEqual : PP.funcs[9]? = some Go.Proofs.Tryd.f9 := Go.Proofs.Tryd.func9
@[reducible] def fn_l03_SyntaxStrip : Nat := 10
theorem func_l03_SyntaxStrip : PP.funcs[10]? = some Go.Proofs.Tryd.f10 := Go.Proofs.Tryd.func10
@[reducible] def fn_l03_SyntaxWalk : Nat := 11
theorem func_l03_SyntaxWalk : PP.funcs[11]? = some Go.Proofs.Tryd.f11 := Go.Proofs.Tryd.func11
@[reducible] def fn_l07_awake : Nat := 12
@[reducible] def fn_r03_Count : Nat := 13
theorem go_r03_Count : goFn PP 13 = true := by kernel_rfl
theorem func_r03_Count : PP.funcs[13]? = some Go.Proofs.Tryd.f13 := Go.Proofs.Tryd.func13
@[reducible] def fn_fold_Value : Nat := 14
@[reducible] def fn_r03_Copy : Nat := 15
theorem go_r03_Copy : goFn PP 15 = true := by kernel_rfl
theorem func_r03_Copy : PP.funcs[15]? = some Go.Proofs.Tryd.f15 := Go.Proofs.Tryd.func15
@[reducible] def fn_r07_Value : Nat := 16
@[reducible] def fn_l07_binary : Nat := 17
@[reducible] def fn_l07_number : Nat := 18
@[reducible] def fn_fold_File : Nat := 19
@[reducible] def fn_r03_Valid : Nat := 20
@[reducible] def fn_r03_Same : Nat := 21
theorem go_r03_Same : goFn PP 21 = true := by kernel_rfl
theorem func_r03_Same : PP.funcs[21]? = some Go.Proofs.Tryd.f21 := Go.Proofs.Tryd.func21
@[reducible] def fn_r03_List : Nat := 22
theorem go_r03_List : goFn PP 22 = true := by kernel_rfl
theorem func_r03_List : PP.funcs[22]? = some Go.Proofs.Tryd.f22 := Go.Proofs.Tryd.func22
@[reducible] def fn_l07_printing : Nat := 23
@[reducible] def fn_l07_printed : Nat := 24
@[reducible] def fn_l03_awake : Nat := 25
theorem go_l03_awake : goFn PP 25 = true := by kernel_rfl
theorem func_l03_awake : PP.funcs[25]? = some Go.Proofs.Tryd.f25 := Go.Proofs.Tryd.func25
@[reducible] def fn_l03_sample : Nat := 26
theorem go_l03_sample : goFn PP 26 = true := by kernel_rfl
theorem func_l03_sample : PP.funcs[26]? = some Go.Proofs.Tryd.f26 := Go.Proofs.Tryd.func26
@[reducible] def fn_syntax_Valid : Nat := 27
theorem go_syntax_Valid : goFn PP 27 = true := by kernel_rfl
theorem func_syntax_Valid : PP.funcs[27]? = some Go.Proofs.Tryd.f27 := Go.Proofs.Tryd.func27
@[reducible] def fn_l03_great : Nat := 28
theorem go_l03_great : goFn PP 28 = true := by kernel_rfl
theorem func_l03_great : PP.funcs[28]? = some Go.Proofs.Tryd.f28 := Go.Proofs.Tryd.func28
@[reducible] def fn_syntax_Equal : Nat := 29
theorem go_syntax_Equal : goFn PP 29 = true := by kernel_rfl
theorem func_syntax_Equal : PP.funcs[29]? = some Go.Proofs.Tryd.f29 := Go.Proofs.Tryd.func29
@[reducible] def fn_r03_Equal : Nat := 30
theorem go_r03_Equal : goFn PP 30 = true := by kernel_rfl
theorem func_r03_Equal : PP.funcs[30]? = some Go.Proofs.Tryd.f30 := Go.Proofs.Tryd.func30
@[reducible] def fn_syntax_Strip : Nat := 31
theorem go_syntax_Strip : goFn PP 31 = true := by kernel_rfl
theorem func_syntax_Strip : PP.funcs[31]? = some Go.Proofs.Tryd.f31 := Go.Proofs.Tryd.func31
@[reducible] def fn_r03_Strip : Nat := 32
theorem go_r03_Strip : goFn PP 32 = true := by kernel_rfl
theorem func_r03_Strip : PP.funcs[32]? = some Go.Proofs.Tryd.f32 := Go.Proofs.Tryd.func32
@[reducible] def fn_syntax_Walk : Nat := 33
theorem go_syntax_Walk : goFn PP 33 = true := by kernel_rfl
theorem func_syntax_Walk : PP.funcs[33]? = some Go.Proofs.Tryd.f33 := Go.Proofs.Tryd.func33
@[reducible] def fn_syntax_Count : Nat := 34
theorem go_syntax_Count : goFn PP 34 = true := by kernel_rfl
theorem func_syntax_Count : PP.funcs[34]? = some Go.Proofs.Tryd.f34 := Go.Proofs.Tryd.func34
@[reducible] def fn_fold_value : Nat := 35
@[reducible] def fn_r03_IsExpr : Nat := 36
@[reducible] def fn_r07_constant : Nat := 37
@[reducible] def fn_fold_fold : Nat := 38
@[reducible] def fn_r03_Depth : Nat := 39
@[reducible] def fn_r03_isDecl : Nat := 40
@[reducible] def fn_syntax_Print : Nat := 41
theorem go_syntax_Print : goFn PP 41 = true := by kernel_rfl
theorem func_syntax_Print : PP.funcs[41]? = some Go.Proofs.Tryd.f41 := Go.Proofs.Tryd.func41
@[reducible] def fn_l03_name : Nat := 42
theorem go_l03_name : goFn PP 42 = true := by kernel_rfl
theorem func_l03_name : PP.funcs[42]? = some Go.Proofs.Tryd.f42 := Go.Proofs.Tryd.func42
@[reducible] def fn_l03_typed : Nat := 43
theorem go_l03_typed : goFn PP 43 = true := by kernel_rfl
theorem func_l03_typed : PP.funcs[43]? = some Go.Proofs.Tryd.f43 := Go.Proofs.Tryd.func43
@[reducible] def fn_syntax_permitted : Nat := 44
theorem go_syntax_permitted : goFn PP 44 = true := by kernel_rfl
theorem func_syntax_permitted : PP.funcs[44]? = some Go.Proofs.Tryd.f44 := Go.Proofs.Tryd.func44
@[reducible] def fn_r03_counts : Nat := 45
theorem go_r03_counts : goFn PP 45 = true := by kernel_rfl
theorem func_r03_counts : PP.funcs[45]? = some Go.Proofs.Tryd.f45 := Go.Proofs.Tryd.func45
@[reducible] def fn_syntax_Walk_1 : Nat := 46
theorem go_syntax_Walk_1 : goFn PP 46 = true := by kernel_rfl
theorem func_syntax_Walk_1 : PP.funcs[46]? = some Go.Proofs.Tryd.f46 := Go.Proofs.Tryd.func46
@[reducible] def fn_syntax_Walk_1_1 : Nat := 47
theorem go_syntax_Walk_1_1 : goFn PP 47 = true := by kernel_rfl
theorem func_syntax_Walk_1_1 : PP.funcs[47]? = some Go.Proofs.Tryd.f47 := Go.Proofs.Tryd.func47
@[reducible] def fn_fold_binary : Nat := 48
@[reducible] def fn_r02_Name : Nat := 49
@[reducible] def fn_r03_expressions : Nat := 50
@[reducible] def fn_r03_BinaryOp : Nat := 51
@[reducible] def fn_r03_isBlock : Nat := 52
@[reducible] def fn_r07_logic : Nat := 53
@[reducible] def fn_r07_arithmetic : Nat := 54
@[reducible] def fn_fold_replace : Nat := 55
@[reducible] def fn_fold_each_api_Node : Nat := 56
@[reducible] def fn_r03_fields : Nat := 57
@[reducible] def fn_r03_isVar : Nat := 58
@[reducible] def fn_r03_isNone : Nat := 59
@[reducible] def fn_r03_IsType : Nat := 60
@[reducible] def fn_syntax_printer_stmt : Nat := 61
theorem go_syntax_printer_stmt : goFn PP 61 = true := by kernel_rfl
theorem func_syntax_printer_stmt : PP.funcs[61]? = some Go.Proofs.Tryd.f61 := Go.Proofs.Tryd.func61
@[reducible] def fn_syntax_printer_write : Nat := 62
theorem go_syntax_printer_write : goFn PP 62 = true := by kernel_rfl
theorem func_syntax_printer_write : PP.funcs[62]? = some Go.Proofs.Tryd.f62 := Go.Proofs.Tryd.func62
@[reducible] def fn_strings_Builder_String : Nat := 63
theorem go_strings_Builder_String : goFn PP 63 = true := by kernel_rfl
@[reducible] def fn_syntax_text : Nat := 64
theorem go_syntax_text : goFn PP 64 = true := by kernel_rfl
theorem func_syntax_text : PP.funcs[64]? = some Go.Proofs.Tryd.f64 := Go.Proofs.Tryd.func64
@[reducible] def fn_syntax_form : Nat := 65
theorem go_syntax_form : goFn PP 65 = true := by kernel_rfl
theorem func_syntax_form : PP.funcs[65]? = some Go.Proofs.Tryd.f65 := Go.Proofs.Tryd.func65
@[reducible] def fn_fold_truth : Nat := 66
@[reducible] def fn_r02_letter : Nat := 67
@[reducible] def fn_r02_Keyword : Nat := 68
@[reducible] def fn_r02_digit : Nat := 69
@[reducible] def fn_r03_isStmt : Nat := 70
@[reducible] def fn_r07_boolean : Nat := 71
@[reducible] def fn_r03_typeName : Nat := 72
@[reducible] def fn_syntax_printer_declaration : Nat := 73
theorem go_syntax_printer_declaration : goFn PP 73 = true := by kernel_rfl
theorem func_syntax_printer_declaration : PP.funcs[73]? = some Go.Proofs.Tryd.f73 := Go.Proofs.Tryd.func73
@[reducible] def fn_syntax_printer_compound : Nat := 74
theorem go_syntax_printer_compound : goFn PP 74 = true := by kernel_rfl
theorem func_syntax_printer_compound : PP.funcs[74]? = some Go.Proofs.Tryd.f74 := Go.Proofs.Tryd.func74
@[reducible] def fn_syntax_printer_simple : Nat := 75
theorem go_syntax_printer_simple : goFn PP 75 = true := by kernel_rfl
theorem func_syntax_printer_simple : PP.funcs[75]? = some Go.Proofs.Tryd.f75 := Go.Proofs.Tryd.func75
@[reducible] def fn_strings_Builder_WriteString : Nat := 76
theorem go_strings_Builder_WriteString : goFn PP 76 = true := by kernel_rfl
theorem func_strings_Builder_WriteString : PP.funcs[76]? = some Go.Proofs.Tryd.f76 := Go.Proofs.Tryd.func76
@[reducible] def fn_syntax_name : Nat := 77
theorem go_syntax_name : goFn PP 77 = true := by kernel_rfl
theorem func_syntax_name : PP.funcs[77]? = some Go.Proofs.Tryd.f77 := Go.Proofs.Tryd.func77
@[reducible] def fn_syntax_among : Nat := 78
theorem go_syntax_among : goFn PP 78 = true := by kernel_rfl
theorem func_syntax_among : PP.funcs[78]? = some Go.Proofs.Tryd.f78 := Go.Proofs.Tryd.func78
@[reducible] def fn_syntax_every : Nat := 79
theorem go_syntax_every : goFn PP 79 = true := by kernel_rfl
theorem func_syntax_every : PP.funcs[79]? = some Go.Proofs.Tryd.f79 := Go.Proofs.Tryd.func79
@[reducible] def fn_syntax_kids : Nat := 80
theorem go_syntax_kids : goFn PP 80 = true := by kernel_rfl
theorem func_syntax_kids : PP.funcs[80]? = some Go.Proofs.Tryd.f80 := Go.Proofs.Tryd.func80
@[reducible] def fn_syntax_typed : Nat := 81
theorem go_syntax_typed : goFn PP 81 = true := by kernel_rfl
theorem func_syntax_typed : PP.funcs[81]? = some Go.Proofs.Tryd.f81 := Go.Proofs.Tryd.func81
@[reducible] def fn_syntax_either : Nat := 82
theorem go_syntax_either : goFn PP 82 = true := by kernel_rfl
theorem func_syntax_either : PP.funcs[82]? = some Go.Proofs.Tryd.f82 := Go.Proofs.Tryd.func82
@[reducible] def fn_syntax_expression : Nat := 83
theorem go_syntax_expression : goFn PP 83 = true := by kernel_rfl
theorem func_syntax_expression : PP.funcs[83]? = some Go.Proofs.Tryd.f83 := Go.Proofs.Tryd.func83
@[reducible] def fn_syntax_statement : Nat := 84
theorem go_syntax_statement : goFn PP 84 = true := by kernel_rfl
theorem func_syntax_statement : PP.funcs[84]? = some Go.Proofs.Tryd.f84 := Go.Proofs.Tryd.func84
@[reducible] def fn_syntax_communication : Nat := 85
theorem go_syntax_communication : goFn PP 85 = true := by kernel_rfl
theorem func_syntax_communication : PP.funcs[85]? = some Go.Proofs.Tryd.f85 := Go.Proofs.Tryd.func85
@[reducible] def fn_r03_isIf : Nat := 86
@[reducible] def fn_r03_isSelect : Nat := 87
@[reducible] def fn_r03_kind : Nat := 88
@[reducible] def fn_syntax_printer_lines : Nat := 89
theorem go_syntax_printer_lines : goFn PP 89 = true := by kernel_rfl
theorem func_syntax_printer_lines : PP.funcs[89]? = some Go.Proofs.Tryd.f89 := Go.Proofs.Tryd.func89
@[reducible] def fn_syntax_printer_line : Nat := 90
theorem go_syntax_printer_line : goFn PP 90 = true := by kernel_rfl
theorem func_syntax_printer_line : PP.funcs[90]? = some Go.Proofs.Tryd.f90 := Go.Proofs.Tryd.func90
@[reducible] def fn_syntax_printer_typ : Nat := 91
theorem go_syntax_printer_typ : goFn PP 91 = true := by kernel_rfl
theorem func_syntax_printer_typ : PP.funcs[91]? = some Go.Proofs.Tryd.f91 := Go.Proofs.Tryd.func91
@[reducible] def fn_syntax_printer_block : Nat := 92
theorem go_syntax_printer_block : goFn PP 92 = true := by kernel_rfl
theorem func_syntax_printer_block : PP.funcs[92]? = some Go.Proofs.Tryd.f92 := Go.Proofs.Tryd.func92
@[reducible] def fn_syntax_printer_expr : Nat := 93
theorem go_syntax_printer_expr : goFn PP 93 = true := by kernel_rfl
theorem func_syntax_printer_expr : PP.funcs[93]? = some Go.Proofs.Tryd.f93 := Go.Proofs.Tryd.func93
@[reducible] def fn_syntax_printer_pair : Nat := 94
theorem go_syntax_printer_pair : goFn PP 94 = true := by kernel_rfl
theorem func_syntax_printer_pair : PP.funcs[94]? = some Go.Proofs.Tryd.f94 := Go.Proofs.Tryd.func94
@[reducible] def fn_syntax_printer_list : Nat := 95
theorem go_syntax_printer_list : goFn PP 95 = true := by kernel_rfl
theorem func_syntax_printer_list : PP.funcs[95]? = some Go.Proofs.Tryd.f95 := Go.Proofs.Tryd.func95
@[reducible] def fn_strings_Builder_copyCheck : Nat := 96
theorem go_strings_Builder_copyCheck : goFn PP 96 = true := by kernel_rfl
theorem func_strings_Builder_copyCheck : PP.funcs[96]? = some Go.Proofs.Tryd.f96 := Go.Proofs.Tryd.func96
@[reducible] def fn_scan_Scan : Nat := 97
theorem go_scan_Scan : goFn PP 97 = true := by kernel_rfl
theorem func_scan_Scan : PP.funcs[97]? = some Go.Proofs.Tryd.f97 := Go.Proofs.Tryd.func97
@[reducible] def fn_syntax_among_1 : Nat := 98
theorem go_syntax_among_1 : goFn PP 98 = true := by kernel_rfl
theorem func_syntax_among_1 : PP.funcs[98]? = some Go.Proofs.Tryd.f98 := Go.Proofs.Tryd.func98
@[reducible] def fn_syntax_either_1 : Nat := 99
theorem go_syntax_either_1 : goFn PP 99 = true := by kernel_rfl
theorem func_syntax_either_1 : PP.funcs[99]? = some Go.Proofs.Tryd.f99 := Go.Proofs.Tryd.func99
@[reducible] def fn_r03_isComm : Nat := 100
@[reducible] def fn_strings_Builder_WriteByte : Nat := 101
theorem go_strings_Builder_WriteByte : goFn PP 101 = true := by kernel_rfl
theorem func_strings_Builder_WriteByte : PP.funcs[101]? = some Go.Proofs.Tryd.f101 := Go.Proofs.Tryd.func101
@[reducible] def fn_syntax_printer_primary : Nat := 102
theorem go_syntax_printer_primary : goFn PP 102 = true := by kernel_rfl
theorem func_syntax_printer_primary : PP.funcs[102]? = some Go.Proofs.Tryd.f102 := Go.Proofs.Tryd.func102
@[reducible] def fn_syntax_printer_inner : Nat := 103
theorem go_syntax_printer_inner : goFn PP 103 = true := by kernel_rfl
theorem func_syntax_printer_inner : PP.funcs[103]? = some Go.Proofs.Tryd.f103 := Go.Proofs.Tryd.func103
@[reducible] def fn_strconv_Itoa : Nat := 104
theorem go_strconv_Itoa : goFn PP 104 = true := by kernel_rfl
@[reducible] def fn_strconv_FormatBool : Nat := 105
theorem go_strconv_FormatBool : goFn PP 105 = true := by kernel_rfl
theorem func_strconv_FormatBool : PP.funcs[105]? = some Go.Proofs.Tryd.f105 := Go.Proofs.Tryd.func105
@[reducible] def fn_scan_all : Nat := 107
theorem go_scan_all : goFn PP 107 = true := by kernel_rfl
theorem func_scan_all : PP.funcs[107]? = some Go.Proofs.Tryd.f107 := Go.Proofs.Tryd.func107
@[reducible] def fn_scan_scanner_next : Nat := 110
theorem go_scan_scanner_next : goFn PP 110 = true := by kernel_rfl
theorem func_scan_scanner_next : PP.funcs[110]? = some Go.Proofs.Tryd.f110 := Go.Proofs.Tryd.func110
@[reducible] def fn_scan_scanner_newline : Nat := 112
theorem go_scan_scanner_newline : goFn PP 112 = true := by kernel_rfl
theorem func_scan_scanner_newline : PP.funcs[112]? = some Go.Proofs.Tryd.f112 := Go.Proofs.Tryd.func112
@[reducible] def fn_strings_HasPrefix : Nat := 113
theorem go_strings_HasPrefix : goFn PP 113 = true := by kernel_rfl
theorem func_strings_HasPrefix : PP.funcs[113]? = some Go.Proofs.Tryd.f113 := Go.Proofs.Tryd.func113
@[reducible] def fn_scan_scanner_run : Nat := 114
theorem go_scan_scanner_run : goFn PP 114 = true := by kernel_rfl
theorem func_scan_scanner_run : PP.funcs[114]? = some Go.Proofs.Tryd.f114 := Go.Proofs.Tryd.func114
@[reducible] def fn_scan_scanner_next_1 : Nat := 115
theorem go_scan_scanner_next_1 : goFn PP 115 = true := by kernel_rfl
theorem func_scan_scanner_next_1 : PP.funcs[115]? = some Go.Proofs.Tryd.f115 := Go.Proofs.Tryd.func115
@[reducible] def fn_scan_letter : Nat := 116
theorem go_scan_letter : goFn PP 116 = true := by kernel_rfl
theorem func_scan_letter : PP.funcs[116]? = some Go.Proofs.Tryd.f116 := Go.Proofs.Tryd.func116
@[reducible] def fn_scan_scanner_next_2 : Nat := 117
theorem go_scan_scanner_next_2 : goFn PP 117 = true := by kernel_rfl
theorem func_scan_scanner_next_2 : PP.funcs[117]? = some Go.Proofs.Tryd.f117 := Go.Proofs.Tryd.func117
@[reducible] def fn_scan_digit : Nat := 118
theorem go_scan_digit : goFn PP 118 = true := by kernel_rfl
theorem func_scan_digit : PP.funcs[118]? = some Go.Proofs.Tryd.f118 := Go.Proofs.Tryd.func118
@[reducible] def fn_scan_Keyword : Nat := 119
theorem go_scan_Keyword : goFn PP 119 = true := by kernel_rfl
theorem func_scan_Keyword : PP.funcs[119]? = some Go.Proofs.Tryd.f119 := Go.Proofs.Tryd.func119
@[reducible] def fn_scan_scanner_put : Nat := 120
theorem go_scan_scanner_put : goFn PP 120 = true := by kernel_rfl
theorem func_scan_scanner_put : PP.funcs[120]? = some Go.Proofs.Tryd.f120 := Go.Proofs.Tryd.func120
@[reducible] def fn_strconv_ParseInt : Nat := 121
theorem go_strconv_ParseInt : goFn PP 121 = true := by kernel_rfl
@[reducible] def fn_scan_ending : Nat := 126
theorem go_scan_ending : goFn PP 126 = true := by kernel_rfl
theorem func_scan_ending : PP.funcs[126]? = some Go.Proofs.Tryd.f126 := Go.Proofs.Tryd.func126
@[reducible] def fn_internal_stringslite_HasPrefix : Nat := 127
theorem go_internal_stringslite_HasPrefix : goFn PP 127 = true := by kernel_rfl
theorem func_internal_stringslite_HasPrefix : PP.funcs[127]? = some Go.Proofs.Tryd.f127 := Go.Proofs.Tryd.func127
@[reducible] def fn_strconv_toError : Nat := 129
@[reducible] def fn_strconv_syntaxError : Nat := 136
@[reducible] def fn_strconv_rangeError : Nat := 137
@[reducible] def fn_strconv_baseError : Nat := 138
@[reducible] def fn_strconv_bitSizeError : Nat := 139
@[reducible] def fn_internal_stringslite_Clone : Nat := 144
@[reducible] def ty_int64 : Nat := 2
@[reducible] def ty_int : Nat := 3
theorem sz_int : tySize PP 3 = some 1 := by kernel_rfl
theorem ze_int : zeroOf PP 3 = some (.int .i64 0) := by kernel_rfl
theorem one_int : tyOne PP 3 = true := by kernel_rfl
theorem ik_int : tyInt PP 3 = some .i64 := by kernel_rfl
@[reducible] def ty_bool : Nat := 4
theorem sz_bool : tySize PP 4 = some 1 := by kernel_rfl
theorem ze_bool : zeroOf PP 4 = some (.bool false) := by kernel_rfl
theorem one_bool : tyOne PP 4 = true := by kernel_rfl
theorem und_bool : PP.underlying 4 = some .bool := by kernel_rfl
@[reducible] def ty_uint8 : Nat := 5
theorem ze_uint8 : zeroOf PP 5 = some (.int .u8 0) := by kernel_rfl
theorem one_uint8 : tyOne PP 5 = true := by kernel_rfl
theorem ik_uint8 : tyInt PP 5 = some .u8 := by kernel_rfl
@[reducible] def ty_string : Nat := 9
theorem ze_string : zeroOf PP 9 = some (.string ⟨#[]⟩) := by kernel_rfl
theorem one_string : tyOne PP 9 = true := by kernel_rfl
theorem str_string : tyStr PP 9 = true := by kernel_rfl
@[reducible] def ty_sl_api_Node : Nat := 22
theorem sz_sl_api_Node : tySize PP 22 = some 1 := by kernel_rfl
theorem ze_sl_api_Node : zeroOf PP 22 = some (.slice none 0 0) := by kernel_rfl
theorem one_sl_api_Node : tyOne PP 22 = true := by kernel_rfl
theorem el_sl_api_Node : tyElem PP 22 = some (26, 9, 104) := by kernel_rfl
@[reducible] def ty_api_Type : Nat := 24
theorem agg_api_Type : tyAgg PP 24 = some 2 := by kernel_rfl
theorem fl_api_Type : tyFlat PP 24 = some [0, 1] := by kernel_rfl
@[reducible] def ty_api_Node : Nat := 26
theorem sz_api_Node : tySize PP 26 = some 9 := by kernel_rfl
theorem ze_api_Node : zeroOf PP 26 = some (.agg #[.int .i64 0, .string ⟨#[]⟩, .int .i64 0, .int .i64 0, .slice none 0 0, .int .i64 0, .string ⟨#[]⟩, .int .i64 0, .int .i64 0]) := by kernel_rfl
theorem agg_api_Node : tyAgg PP 26 = some 9 := by kernel_rfl
theorem fo_api_Node_0 : fieldOff PP 26 0 = some 0 := by kernel_rfl
theorem fo_api_Node_1 : fieldOff PP 26 1 = some 1 := by kernel_rfl
theorem fo_api_Node_2 : fieldOff PP 26 2 = some 2 := by kernel_rfl
theorem fo_api_Node_3 : fieldOff PP 26 3 = some 3 := by kernel_rfl
theorem fo_api_Node_4 : fieldOff PP 26 4 = some 4 := by kernel_rfl
theorem fo_api_Node_5 : fieldOff PP 26 5 = some 5 := by kernel_rfl
theorem fo_api_Node_6 : fieldOff PP 26 6 = some 7 := by kernel_rfl
theorem fo_api_Node_7 : fieldOff PP 26 7 = some 8 := by kernel_rfl
theorem pl_api_Node : structPlaces PP 26 = some [(0, 1), (1, 1), (2, 1), (3, 1), (4, 1), (5, 2), (7, 1), (8, 1)] := by kernel_rfl
@[reducible] def ty_func_api_Node_api_Node : Nat := 31
@[reducible] def ty_func_api_Node_bool : Nat := 32
theorem sz_func_api_Node_bool : tySize PP 32 = some 1 := by kernel_rfl
theorem ze_func_api_Node_bool : zeroOf PP 32 = some (.nilFunc) := by kernel_rfl
theorem one_func_api_Node_bool : tyOne PP 32 = true := by kernel_rfl
@[reducible] def ty_7_string : Nat := 33
@[reducible] def ty_func_uint8_bool : Nat := 40
@[reducible] def ty_func_func_api_Node_bool : Nat := 41
@[reducible] def ty_iter_Seq_interleave_api_Node : Nat := 42
@[reducible] def ty_fold_constant : Nat := 46
@[reducible] def ty_p_strings_Builder : Nat := 62
theorem sz_p_strings_Builder : tySize PP 62 = some 1 := by kernel_rfl
theorem one_p_strings_Builder : tyOne PP 62 = true := by kernel_rfl
theorem pt_p_strings_Builder : tyPtr PP 62 = true := by kernel_rfl
@[reducible] def ty_sl_uint8 : Nat := 63
theorem sz_sl_uint8 : tySize PP 63 = some 1 := by kernel_rfl
theorem one_sl_uint8 : tyOne PP 63 = true := by kernel_rfl
theorem el_sl_uint8 : tyElem PP 63 = some (5, 1, 1) := by kernel_rfl
@[reducible] def ty_strings_Builder : Nat := 65
theorem fo_strings_Builder_0 : fieldOff PP 65 0 = some 0 := by kernel_rfl
theorem fo_strings_Builder_1 : fieldOff PP 65 1 = some 1 := by kernel_rfl
@[reducible] def ty_syntax_printer : Nat := 67
theorem ze_syntax_printer : zeroOf PP 67 = some (.agg #[.pointer none, .slice none 0 0, .int .i64 0]) := by kernel_rfl
theorem fo_syntax_printer_0 : fieldOff PP 67 0 = some 0 := by kernel_rfl
theorem fo_syntax_printer_1 : fieldOff PP 67 1 = some 2 := by kernel_rfl
@[reducible] def ty_p_syntax_printer : Nat := 73
@[reducible] def ty_sl_string : Nat := 74
theorem el_sl_string : tyElem PP 74 = some (9, 1, 16) := by kernel_rfl
@[reducible] def ty_error : Nat := 76
theorem if_error : PP.isIface 76 = true := by kernel_rfl
@[reducible] def ty_p_uint8 : Nat := 79
@[reducible] def ty_func_int_bool : Nat := 80
theorem sz_func_int_bool : tySize PP 80 = some 1 := by kernel_rfl
theorem ze_func_int_bool : zeroOf PP 80 = some (.nilFunc) := by kernel_rfl
theorem one_func_int_bool : tyOne PP 80 = true := by kernel_rfl
@[reducible] def ty_sl_api_Token : Nat := 87
theorem sz_sl_api_Token : tySize PP 87 = some 1 := by kernel_rfl
theorem one_sl_api_Token : tyOne PP 87 = true := by kernel_rfl
theorem el_sl_api_Token : tyElem PP 87 = some (92, 3, 32) := by kernel_rfl
@[reducible] def ty_api_Errno : Nat := 88
@[reducible] def ty_api_Token : Nat := 92
theorem sz_api_Token : tySize PP 92 = some 3 := by kernel_rfl
theorem ze_api_Token : zeroOf PP 92 = some (.agg #[.int .i64 0, .string ⟨#[]⟩, .int .i64 0]) := by kernel_rfl
theorem agg_api_Token : tyAgg PP 92 = some 3 := by kernel_rfl
theorem fo_api_Token_0 : fieldOff PP 92 0 = some 0 := by kernel_rfl
theorem fo_api_Token_1 : fieldOff PP 92 1 = some 1 := by kernel_rfl
theorem pl_api_Token : structPlaces PP 92 = some [(0, 1), (1, 1), (2, 1)] := by kernel_rfl
@[reducible] def ty_sl_int : Nat := 93
theorem one_sl_int : tyOne PP 93 = true := by kernel_rfl
theorem el_sl_int : tyElem PP 93 = some (3, 1, 8) := by kernel_rfl
@[reducible] def ty_sl_func_int_bool : Nat := 94
theorem el_sl_func_int_bool : tyElem PP 94 = some (80, 1, 8) := by kernel_rfl
@[reducible] def ty_unsafe_Pointer : Nat := 99
@[reducible] def ty_p_scan_scanner : Nat := 101
@[reducible] def ty_scan_scanner : Nat := 105
theorem ze_scan_scanner : zeroOf PP 105 = some (.agg #[.string ⟨#[]⟩, .int .i64 0, .slice none 0 0, .slice none 0 0]) := by kernel_rfl
theorem fo_scan_scanner_0 : fieldOff PP 105 0 = some 0 := by kernel_rfl
theorem fo_scan_scanner_1 : fieldOff PP 105 1 = some 1 := by kernel_rfl
theorem fo_scan_scanner_2 : fieldOff PP 105 2 = some 2 := by kernel_rfl
theorem fo_scan_scanner_3 : fieldOff PP 105 3 = some 3 := by kernel_rfl
theorem pl_scan_scanner : structPlaces PP 105 = some [(0, 1), (1, 1), (2, 1), (3, 1)] := by kernel_rfl
@[reducible] def ty_27_string : Nat := 113
theorem agg_27_string : tyAgg PP 113 = some 27 := by kernel_rfl
theorem ar_27_string : tyArr1 PP 113 = some 27 := by kernel_rfl
@[reducible] def ty_strconv_Error : Nat := 127
@[reducible] def ty_p_strconv_NumError : Nat := 130
@[reducible] def ty_strconv_NumError : Nat := 137
end Go.Rk
namespace Go.Rk
open Go Go.Shelf Go.RowKit
def laysC174_ren : Go.Shelf.Ren := ⟨fun | 174 => 121 | 247 => 128 | 245 => 129 | 287 => 135 | 279 => 136 | 280 => 137 | 281 => 138 | 282 => 139 | 321 => 142 | 322 => 143 | 316 => 144 | 171 => 104 | 205 => 145 | 243 => 108 | 246 => 111 | 283 => 122 | 284 => 123 | 285 => 124 | 286 => 125 | 129 => 131 | 317 => 130 | 318 => 132 | 319 => 133 | 320 => 134 | 337 => 140 | 338 => 141 | n => n, fun | 9 => 9 | 3 => 3 | 2 => 2 | 75 => 76 | 85 => 111 | 4 => 4 | 167 => 127 | 5 => 5 | 53 => 115 | 175 => 128 | 46 => 125 | 168 => 130 | 37 => 63 | 0 => 0 | 210 => 137 | 21 => 21 | 127 => 79 | 145 => 143 | 143 => 141 | 171 => 114 | 173 => 118 | 212 => 122 | 51 => 123 | 20 => 20 | 213 => 124 | 232 => 139 | 233 => 140 | 80 => 70 | n => n, fun | 15 => 2 | 16 => 3 | 17 => 1 | 18 => 4 | 19 => 5 | n => n⟩
theorem laysC174 : Go.Proofs.LaysC.n174 PP laysC174_ren := {
  mixed := by kernel_rfl
  f129 := Go.Proofs.Tryd.func131.trans (congrArg some (by kernel_rfl))
  f171 := Go.Proofs.Tryd.func104.trans (congrArg some (by kernel_rfl))
  f174 := Go.Proofs.Tryd.func121.trans (congrArg some (by kernel_rfl))
  f205 := Go.Proofs.Tryd.func145.trans (congrArg some (by kernel_rfl))
  f243 := Go.Proofs.Tryd.func108.trans (congrArg some (by kernel_rfl))
  f245 := Go.Proofs.Tryd.func129.trans (congrArg some (by kernel_rfl))
  f246 := Go.Proofs.Tryd.func111.trans (congrArg some (by kernel_rfl))
  f247 := Go.Proofs.Tryd.func128.trans (congrArg some (by kernel_rfl))
  f279 := Go.Proofs.Tryd.func136.trans (congrArg some (by kernel_rfl))
  f280 := Go.Proofs.Tryd.func137.trans (congrArg some (by kernel_rfl))
  f281 := Go.Proofs.Tryd.func138.trans (congrArg some (by kernel_rfl))
  f282 := Go.Proofs.Tryd.func139.trans (congrArg some (by kernel_rfl))
  f283 := Go.Proofs.Tryd.func122.trans (congrArg some (by kernel_rfl))
  f284 := Go.Proofs.Tryd.func123.trans (congrArg some (by kernel_rfl))
  f285 := Go.Proofs.Tryd.func124.trans (congrArg some (by kernel_rfl))
  f286 := Go.Proofs.Tryd.func125.trans (congrArg some (by kernel_rfl))
  f287 := Go.Proofs.Tryd.func135.trans (congrArg some (by kernel_rfl))
  f316 := Go.Proofs.Tryd.func144.trans (congrArg some (by kernel_rfl))
  f317 := Go.Proofs.Tryd.func130.trans (congrArg some (by kernel_rfl))
  f318 := Go.Proofs.Tryd.func132.trans (congrArg some (by kernel_rfl))
  f319 := Go.Proofs.Tryd.func133.trans (congrArg some (by kernel_rfl))
  f320 := Go.Proofs.Tryd.func134.trans (congrArg some (by kernel_rfl))
  f321 := Go.Proofs.Tryd.func142.trans (congrArg some (by kernel_rfl))
  f322 := Go.Proofs.Tryd.func143.trans (congrArg some (by kernel_rfl))
  f337 := Go.Proofs.Tryd.func140.trans (congrArg some (by kernel_rfl))
  f338 := Go.Proofs.Tryd.func141.trans (congrArg some (by kernel_rfl))
  t0 := Go.Proofs.Tryd.underlying0
  a0 := Go.Proofs.Tryd.isAgg0
  z0 := Go.Proofs.Tryd.sizeOf0
  v0 := Go.Proofs.Tryd.zeroValue0
  t2 := Go.Proofs.Tryd.underlying2
  a2 := Go.Proofs.Tryd.isAgg2
  z2 := Go.Proofs.Tryd.sizeOf2
  v2 := Go.Proofs.Tryd.zeroValue2
  t3 := Go.Proofs.Tryd.underlying3
  a3 := Go.Proofs.Tryd.isAgg3
  z3 := Go.Proofs.Tryd.sizeOf3
  v3 := Go.Proofs.Tryd.zeroValue3
  t4 := Go.Proofs.Tryd.underlying4
  a4 := Go.Proofs.Tryd.isAgg4
  z4 := Go.Proofs.Tryd.sizeOf4
  v4 := Go.Proofs.Tryd.zeroValue4
  t5 := Go.Proofs.Tryd.underlying5
  a5 := Go.Proofs.Tryd.isAgg5
  z5 := Go.Proofs.Tryd.sizeOf5
  v5 := Go.Proofs.Tryd.zeroValue5
  t9 := Go.Proofs.Tryd.underlying9
  a9 := Go.Proofs.Tryd.isAgg9
  z9 := Go.Proofs.Tryd.sizeOf9
  v9 := Go.Proofs.Tryd.zeroValue9
  t20 := Go.Proofs.Tryd.underlying20
  a20 := Go.Proofs.Tryd.isAgg20
  z20 := Go.Proofs.Tryd.sizeOf20
  v20 := Go.Proofs.Tryd.zeroValue20
  t21 := Go.Proofs.Tryd.underlying21
  a21 := Go.Proofs.Tryd.isAgg21
  z21 := Go.Proofs.Tryd.sizeOf21
  v21 := Go.Proofs.Tryd.zeroValue21
  t37 := Go.Proofs.Tryd.underlying63
  a37 := Go.Proofs.Tryd.isAgg63
  z37 := Go.Proofs.Tryd.sizeOf63
  v37 := Go.Proofs.Tryd.zeroValue63
  t46 := Go.Proofs.Tryd.underlying125
  a46 := Go.Proofs.Tryd.isAgg125
  z46 := Go.Proofs.Tryd.sizeOf125
  v46 := Go.Proofs.Tryd.zeroValue125
  t51 := Go.Proofs.Tryd.underlying123
  a51 := Go.Proofs.Tryd.isAgg123
  z51 := Go.Proofs.Tryd.sizeOf123
  v51 := Go.Proofs.Tryd.zeroValue123
  t53 := Go.Proofs.Tryd.underlying115
  a53 := Go.Proofs.Tryd.isAgg115
  z53 := Go.Proofs.Tryd.sizeOf115
  v53 := Go.Proofs.Tryd.zeroValue115
  t75 := Go.Proofs.Tryd.underlying76
  a75 := Go.Proofs.Tryd.isAgg76
  z75 := Go.Proofs.Tryd.sizeOf76
  v75 := Go.Proofs.Tryd.zeroValue76
  t85 := Go.Proofs.Tryd.underlying111
  a85 := Go.Proofs.Tryd.isAgg111
  z85 := Go.Proofs.Tryd.sizeOf111
  v85 := Go.Proofs.Tryd.zeroValue111
  t127 := Go.Proofs.Tryd.underlying79
  a127 := Go.Proofs.Tryd.isAgg79
  z127 := Go.Proofs.Tryd.sizeOf79
  v127 := Go.Proofs.Tryd.zeroValue79
  t143 := Go.Proofs.Tryd.underlying141
  a143 := Go.Proofs.Tryd.isAgg141
  z143 := Go.Proofs.Tryd.sizeOf141
  v143 := Go.Proofs.Tryd.zeroValue141
  t145 := Go.Proofs.Tryd.underlying143
  a145 := Go.Proofs.Tryd.isAgg143
  z145 := Go.Proofs.Tryd.sizeOf143
  v145 := Go.Proofs.Tryd.zeroValue143
  t167 := Go.Proofs.Tryd.underlying127
  a167 := Go.Proofs.Tryd.isAgg127
  z167 := Go.Proofs.Tryd.sizeOf127
  v167 := Go.Proofs.Tryd.zeroValue127
  t168 := Go.Proofs.Tryd.underlying130
  a168 := Go.Proofs.Tryd.isAgg130
  z168 := Go.Proofs.Tryd.sizeOf130
  v168 := Go.Proofs.Tryd.zeroValue130
  t171 := Go.Proofs.Tryd.underlying114
  a171 := Go.Proofs.Tryd.isAgg114
  z171 := Go.Proofs.Tryd.sizeOf114
  v171 := Go.Proofs.Tryd.zeroValue114
  t173 := Go.Proofs.Tryd.underlying118
  a173 := Go.Proofs.Tryd.isAgg118
  z173 := Go.Proofs.Tryd.sizeOf118
  v173 := Go.Proofs.Tryd.zeroValue118
  t175 := Go.Proofs.Tryd.underlying128
  a175 := Go.Proofs.Tryd.isAgg128
  z175 := Go.Proofs.Tryd.sizeOf128
  v175 := Go.Proofs.Tryd.zeroValue128
  t210 := Go.Proofs.Tryd.underlying137
  a210 := Go.Proofs.Tryd.isAgg137
  z210 := Go.Proofs.Tryd.sizeOf137
  v210 := Go.Proofs.Tryd.zeroValue137
  t212 := Go.Proofs.Tryd.underlying122
  a212 := Go.Proofs.Tryd.isAgg122
  z212 := Go.Proofs.Tryd.sizeOf122
  v212 := Go.Proofs.Tryd.zeroValue122
  t213 := Go.Proofs.Tryd.underlying124
  a213 := Go.Proofs.Tryd.isAgg124
  z213 := Go.Proofs.Tryd.sizeOf124
  t232 := Go.Proofs.Tryd.underlying139
  a232 := Go.Proofs.Tryd.isAgg139
  z232 := Go.Proofs.Tryd.sizeOf139
  v232 := Go.Proofs.Tryd.zeroValue139
  t233 := Go.Proofs.Tryd.underlying140
  a233 := Go.Proofs.Tryd.isAgg140
  z233 := Go.Proofs.Tryd.sizeOf140
  v233 := Go.Proofs.Tryd.zeroValue140
  g15 := by kernel_rfl
  g16 := by kernel_rfl
  g17 := by kernel_rfl
  g18 := by kernel_rfl
  g19 := by kernel_rfl
  t80 := Go.Proofs.Tryd.underlying70
  a80 := Go.Proofs.Tryd.isAgg70
  z80 := Go.Proofs.Tryd.sizeOf70
  v80 := Go.Proofs.Tryd.zeroValue70
  i0 := by kernel_rfl
  i2 := by kernel_rfl
  i3 := by kernel_rfl
  i4 := by kernel_rfl
  i5 := by kernel_rfl
  i9 := by kernel_rfl
  i20 := by kernel_rfl
  i21 := by kernel_rfl
  i37 := by kernel_rfl
  i46 := by kernel_rfl
  i51 := by kernel_rfl
  i53 := by kernel_rfl
  i75 := by kernel_rfl
  i80 := by kernel_rfl
  i85 := by kernel_rfl
  i127 := by kernel_rfl
  i143 := by kernel_rfl
  i145 := by kernel_rfl
  i167 := by kernel_rfl
  i168 := by kernel_rfl
  i171 := by kernel_rfl
  i173 := by kernel_rfl
  i175 := by kernel_rfl
  i210 := by kernel_rfl
  i212 := by kernel_rfl
  i232 := by kernel_rfl
  i233 := by kernel_rfl
  m15 := by kernel_rfl
  m16 := by kernel_rfl
  m17 := by kernel_rfl
  m18 := by kernel_rfl
  m19 := by kernel_rfl
  c0 := by kernel_rfl
  c2 := by kernel_rfl
  c3 := by kernel_rfl
  c4 := by kernel_rfl
  c5 := by kernel_rfl
  c9 := by kernel_rfl
  c20 := by kernel_rfl
  c21 := by kernel_rfl
  c37 := by kernel_rfl
  c46 := by kernel_rfl
  c51 := by kernel_rfl
  c53 := by kernel_rfl
  c75 := by kernel_rfl
  c80 := by kernel_rfl
  c85 := by kernel_rfl
  c127 := by kernel_rfl
  c143 := by kernel_rfl
  c145 := by kernel_rfl
  c167 := by kernel_rfl
  c168 := by kernel_rfl
  c171 := by kernel_rfl
  c173 := by kernel_rfl
  c175 := by kernel_rfl
  c210 := by kernel_rfl
  c212 := by kernel_rfl
  c213 := by kernel_rfl
  c232 := by kernel_rfl
  c233 := by kernel_rfl }
end Go.Rk
namespace Go.Rk
open Go Go.Shelf Go.RowKit
def laysM171_ren : Go.Shelf.Ren := ⟨fun | 171 => 104 | 243 => 108 | 246 => 111 | 283 => 122 | 284 => 123 | 285 => 124 | 286 => 125 | 129 => 131 | 317 => 130 | 318 => 132 | 319 => 133 | 320 => 134 | 337 => 140 | 338 => 141 | n => n, fun | 3 => 3 | 9 => 9 | 2 => 2 | 4 => 4 | 171 => 114 | 0 => 0 | 53 => 115 | 37 => 63 | 5 => 5 | 173 => 118 | 212 => 122 | 51 => 123 | 20 => 20 | 213 => 124 | 46 => 125 | 232 => 139 | 233 => 140 | n => n, fun | 17 => 1 | 18 => 4 | 19 => 5 | n => n⟩
theorem laysM171 : Go.Proofs.LaysM.n171 PP laysM171_ren := {
  mixed := by kernel_rfl
  f129 := Go.Proofs.Tryd.func131.trans (congrArg some (by kernel_rfl))
  f171 := Go.Proofs.Tryd.func104.trans (congrArg some (by kernel_rfl))
  f243 := Go.Proofs.Tryd.func108.trans (congrArg some (by kernel_rfl))
  f246 := Go.Proofs.Tryd.func111.trans (congrArg some (by kernel_rfl))
  f283 := Go.Proofs.Tryd.func122.trans (congrArg some (by kernel_rfl))
  f284 := Go.Proofs.Tryd.func123.trans (congrArg some (by kernel_rfl))
  f285 := Go.Proofs.Tryd.func124.trans (congrArg some (by kernel_rfl))
  f286 := Go.Proofs.Tryd.func125.trans (congrArg some (by kernel_rfl))
  f317 := Go.Proofs.Tryd.func130.trans (congrArg some (by kernel_rfl))
  f318 := Go.Proofs.Tryd.func132.trans (congrArg some (by kernel_rfl))
  f319 := Go.Proofs.Tryd.func133.trans (congrArg some (by kernel_rfl))
  f320 := Go.Proofs.Tryd.func134.trans (congrArg some (by kernel_rfl))
  f337 := Go.Proofs.Tryd.func140.trans (congrArg some (by kernel_rfl))
  f338 := Go.Proofs.Tryd.func141.trans (congrArg some (by kernel_rfl))
  t0 := Go.Proofs.Tryd.underlying0
  a0 := Go.Proofs.Tryd.isAgg0
  z0 := Go.Proofs.Tryd.sizeOf0
  v0 := Go.Proofs.Tryd.zeroValue0
  t2 := Go.Proofs.Tryd.underlying2
  a2 := Go.Proofs.Tryd.isAgg2
  z2 := Go.Proofs.Tryd.sizeOf2
  v2 := Go.Proofs.Tryd.zeroValue2
  t3 := Go.Proofs.Tryd.underlying3
  a3 := Go.Proofs.Tryd.isAgg3
  z3 := Go.Proofs.Tryd.sizeOf3
  v3 := Go.Proofs.Tryd.zeroValue3
  t4 := Go.Proofs.Tryd.underlying4
  a4 := Go.Proofs.Tryd.isAgg4
  z4 := Go.Proofs.Tryd.sizeOf4
  v4 := Go.Proofs.Tryd.zeroValue4
  t5 := Go.Proofs.Tryd.underlying5
  a5 := Go.Proofs.Tryd.isAgg5
  z5 := Go.Proofs.Tryd.sizeOf5
  v5 := Go.Proofs.Tryd.zeroValue5
  t9 := Go.Proofs.Tryd.underlying9
  a9 := Go.Proofs.Tryd.isAgg9
  z9 := Go.Proofs.Tryd.sizeOf9
  v9 := Go.Proofs.Tryd.zeroValue9
  t20 := Go.Proofs.Tryd.underlying20
  a20 := Go.Proofs.Tryd.isAgg20
  z20 := Go.Proofs.Tryd.sizeOf20
  v20 := Go.Proofs.Tryd.zeroValue20
  t37 := Go.Proofs.Tryd.underlying63
  a37 := Go.Proofs.Tryd.isAgg63
  z37 := Go.Proofs.Tryd.sizeOf63
  v37 := Go.Proofs.Tryd.zeroValue63
  t46 := Go.Proofs.Tryd.underlying125
  a46 := Go.Proofs.Tryd.isAgg125
  z46 := Go.Proofs.Tryd.sizeOf125
  v46 := Go.Proofs.Tryd.zeroValue125
  t51 := Go.Proofs.Tryd.underlying123
  a51 := Go.Proofs.Tryd.isAgg123
  z51 := Go.Proofs.Tryd.sizeOf123
  v51 := Go.Proofs.Tryd.zeroValue123
  t53 := Go.Proofs.Tryd.underlying115
  a53 := Go.Proofs.Tryd.isAgg115
  z53 := Go.Proofs.Tryd.sizeOf115
  v53 := Go.Proofs.Tryd.zeroValue115
  t171 := Go.Proofs.Tryd.underlying114
  a171 := Go.Proofs.Tryd.isAgg114
  z171 := Go.Proofs.Tryd.sizeOf114
  v171 := Go.Proofs.Tryd.zeroValue114
  t173 := Go.Proofs.Tryd.underlying118
  a173 := Go.Proofs.Tryd.isAgg118
  z173 := Go.Proofs.Tryd.sizeOf118
  v173 := Go.Proofs.Tryd.zeroValue118
  t212 := Go.Proofs.Tryd.underlying122
  a212 := Go.Proofs.Tryd.isAgg122
  z212 := Go.Proofs.Tryd.sizeOf122
  v212 := Go.Proofs.Tryd.zeroValue122
  t213 := Go.Proofs.Tryd.underlying124
  a213 := Go.Proofs.Tryd.isAgg124
  z213 := Go.Proofs.Tryd.sizeOf124
  t232 := Go.Proofs.Tryd.underlying139
  a232 := Go.Proofs.Tryd.isAgg139
  z232 := Go.Proofs.Tryd.sizeOf139
  v232 := Go.Proofs.Tryd.zeroValue139
  t233 := Go.Proofs.Tryd.underlying140
  a233 := Go.Proofs.Tryd.isAgg140
  z233 := Go.Proofs.Tryd.sizeOf140
  v233 := Go.Proofs.Tryd.zeroValue140
  g17 := by kernel_rfl
  g18 := by kernel_rfl
  g19 := by kernel_rfl
  i0 := by kernel_rfl
  i2 := by kernel_rfl
  i3 := by kernel_rfl
  i4 := by kernel_rfl
  i5 := by kernel_rfl
  i9 := by kernel_rfl
  i20 := by kernel_rfl
  i37 := by kernel_rfl
  i46 := by kernel_rfl
  i51 := by kernel_rfl
  i53 := by kernel_rfl
  i171 := by kernel_rfl
  i173 := by kernel_rfl
  i212 := by kernel_rfl
  i232 := by kernel_rfl
  i233 := by kernel_rfl
  m17 := by kernel_rfl
  m18 := by kernel_rfl
  m19 := by kernel_rfl }
end Go.Rk
namespace Go.Rk
open Go Go.Shelf Go.RowKit
def lays169_ren : Go.Shelf.Ren := ⟨fun | 169 => 63 | n => n, fun | 70 => 62 | 9 => 9 | 0 => 0 | 72 => 65 | 37 => 63 | 127 => 79 | 3 => 3 | 5 => 5 | n => n, fun | n => n⟩
theorem lays169 : Go.Proofs.Lays.n169 PP lays169_ren := {
  mixed := by kernel_rfl
  f169 := Go.Proofs.Tryd.func63.trans (congrArg some (by kernel_rfl))
  t0 := Go.Proofs.Tryd.underlying0
  a0 := Go.Proofs.Tryd.isAgg0
  z0 := Go.Proofs.Tryd.sizeOf0
  v0 := Go.Proofs.Tryd.zeroValue0
  t3 := Go.Proofs.Tryd.underlying3
  a3 := Go.Proofs.Tryd.isAgg3
  z3 := Go.Proofs.Tryd.sizeOf3
  v3 := Go.Proofs.Tryd.zeroValue3
  t9 := Go.Proofs.Tryd.underlying9
  a9 := Go.Proofs.Tryd.isAgg9
  z9 := Go.Proofs.Tryd.sizeOf9
  v9 := Go.Proofs.Tryd.zeroValue9
  t37 := Go.Proofs.Tryd.underlying63
  a37 := Go.Proofs.Tryd.isAgg63
  z37 := Go.Proofs.Tryd.sizeOf63
  v37 := Go.Proofs.Tryd.zeroValue63
  t70 := Go.Proofs.Tryd.underlying62
  a70 := Go.Proofs.Tryd.isAgg62
  z70 := Go.Proofs.Tryd.sizeOf62
  v70 := Go.Proofs.Tryd.zeroValue62
  t72 := Go.Proofs.Tryd.underlying65
  a72 := Go.Proofs.Tryd.isAgg65
  z72 := Go.Proofs.Tryd.sizeOf65
  v72 := Go.Proofs.Tryd.zeroValue65
  t127 := Go.Proofs.Tryd.underlying79
  a127 := Go.Proofs.Tryd.isAgg79
  z127 := Go.Proofs.Tryd.sizeOf79
  v127 := Go.Proofs.Tryd.zeroValue79 }
end Go.Rk
