/- Merged texts of one road: More, EngT, Nest, Facts. Conditions: each text's own. -/
import Derived.Test.YteicjpedahoilaaGreatDoorA01
import Derived.Laws.StructEq
import Derived.Stop.IfaceNil
import Derived.Laws.Pointers
import Derived.Test.YteicjpedahoilaaGreatDoorProg
import Derived.KernelRfl
set_option linter.unusedSimpArgs false
set_option linter.unusedVariables false
namespace Go.Rk
open Go Go.RowKit
set_option linter.unusedVariables false
section
variable {P : Program} {n : Nat} {σ : List Ent} {c : Prop} {wb : World} {ty : TypeId} {v : Value}

/-! structs of plain cells, compared -/
def flatKind (P : Program) (t : TypeId) : Option Nat := match P.underlying t with
  | some (.int _) => some 0
  | some .string => some 1
  | some .bool => some 2
  | _ => none
def flatFs (P : Program) : Nat → List Field → Option (List Nat)
  | _, [] => some []
  | k, f :: fs => if Nat.beq f.offset k && f.name != "_" then match flatKind P f.type, flatFs P (k + 1) fs with
      | some a, some l => some (a :: l)
      | _, _ => none
    else none
def tyFlat (P : Program) (t : TypeId) : Option (List Nat) := match P.underlying t with
  | some (.struct fs) => if P.stoodInHeld t = false ∧ P.eqGuardType P.depth t = false then flatFs P 0 fs.toList else none
  | _ => none
def eqL : List Nat → List Value → List Value → Option Bool
  | [], [], [] => some true
  | 0 :: ks, .int k a :: l, .int k' b :: l' => if k = k' then match eqL ks l l' with | some r => some (decide (a = b) && r) | none => none else none
  | 1 :: ks, .string a :: l, .string b :: l' => match eqL ks l l' with | some r => some (decide (a.data.toList = b.data.toList) && r) | none => none
  | 2 :: ks, .bool a :: l, .bool b :: l' => match eqL ks l l' with | some r => some (a == b && r) | none => none
  | _, _, _ => none
theorem part_one {t : TypeId} (ht : tyOne P t = true) {cs : Array Value} {o : Nat} {v : Value} (hv : cs[o]? = some v) (w : World) : (part t cs o).run P w = .ok v w := by
  have : (isAgg t).run P w = .ok false w := by
    unfold tyOne at ht
    split at ht <;> try (cases ht; done)
    rename_i d hd1 hd2 hd
    simp only [isAgg, Sem.run_bind, run_underlying hd, Result.andThen_ok]
    cases d <;> simp_all
  simp [part, this, hv]
theorem flat_one {t : TypeId} {k : Nat} (h : flatKind P t = some k) : tyOne P t = true := by
  unfold flatKind at h
  unfold tyOne
  split at h <;> simp_all
theorem eqL_0 {u u' : Value} {b : Bool} (he : eqL [0] [u] [u'] = some b) : ∃ k a a', u = .int k a ∧ u' = .int k a' ∧ b = decide (a = a') := by
  unfold eqL at he
  split at he
  · rename_i h1 _ _; cases h1
  · rename_i h1 h2 h3
    injection h2 with h2 h2'; injection h3 with h3 h3'; injection h1 with h0 h1'; subst h2' h3' h2 h3 h1'
    split at he
    · rename_i hk; subst hk
      simp [eqL] at he
      exact ⟨_, _, _, rfl, rfl, he.symm⟩
    · cases he
  · rename_i h1 _ _; cases h1
  · rename_i h1 _ _; cases h1
  · cases he
theorem eqL_1 {u u' : Value} {b : Bool} (he : eqL [1] [u] [u'] = some b) : ∃ a a', u = .string a ∧ u' = .string a' ∧ b = decide (a.data.toList = a'.data.toList) := by
  unfold eqL at he
  split at he
  · rename_i h1 _ _; cases h1
  · rename_i h1 _ _; cases h1
  · rename_i h1 h2 h3
    injection h2 with h2 h2'; injection h3 with h3 h3'; injection h1 with h0 h1'; subst h2' h3' h2 h3 h1'
    simp only [eqL, Bool.and_true, Option.some.injEq] at he
    exact ⟨_, _, rfl, rfl, he.symm⟩
  · rename_i h1 _ _; cases h1
  · cases he
theorem eqL_2 {u u' : Value} {b : Bool} (he : eqL [2] [u] [u'] = some b) : ∃ a a', u = .bool a ∧ u' = .bool a' ∧ b = (a == a') := by
  unfold eqL at he
  split at he
  · rename_i h1 _ _; cases h1
  · rename_i h1 _ _; cases h1
  · rename_i h1 _ _; cases h1
  · rename_i h1 h2 h3
    injection h2 with h2 h2'; injection h3 with h3 h3'; injection h1 with h0 h1'; subst h2' h3' h2 h3 h1'
    simp only [eqL, Bool.and_true, Option.some.injEq] at he
    exact ⟨_, _, rfl, rfl, he.symm⟩
  · cases he
theorem flat_cell {t : TypeId} {k d : Nat} (h : flatKind P t = some k) {u u' : Value} {b : Bool} (he : eqL [k] [u] [u'] = some b) (w : World) : (Op.equalIn (d + 1) t u u').run P w = .ok b w := by
  unfold flatKind at h
  split at h <;> try (cases h; done)
  · rename_i k0 hu
    injection h with h; subst h
    obtain ⟨k, a, a', rfl, rfl, rfl⟩ := eqL_0 he
    rw [run_equalIn_int w d t _ k0 _ _ hu]
    congr 1
  · rename_i hu
    injection h with h; subst h
    obtain ⟨a, a', rfl, rfl, rfl⟩ := eqL_1 he
    rw [run_equalIn_string w d t _ _ hu]
    congr 1
    rw [ByteArray.toList_eq, ByteArray.toList_eq]
    rw [Bool.eq_iff_iff]; simp
  · rename_i hu
    injection h with h; subst h
    obtain ⟨a, a', rfl, rfl, rfl⟩ := eqL_2 he
    rw [run_equalIn_bool' w d t _ _ hu]
theorem eqL_cons {k : Nat} {ks : List Nat} {l l' : List Value} {b : Bool} (h : eqL (k :: ks) l l' = some b) : ∃ u u' r r' b1 b2, l = u :: r ∧ l' = u' :: r' ∧ eqL [k] [u] [u'] = some b1 ∧ eqL ks r r' = some b2 ∧ b = (b1 && b2) := by
  unfold eqL at h
  split at h
  · rename_i h1; cases h1
  · rename_i h1; injection h1 with h1 h1'; subst h1 h1'
    split at h
    · rename_i hk; subst hk
      split at h
      · rename_i r hr; injection h with h; exact ⟨_, _, _, _, _, r, rfl, rfl, by simp [eqL], hr, h.symm⟩
      · cases h
    · cases h
  · rename_i h1; injection h1 with h1 h1'; subst h1 h1'
    split at h
    · rename_i r hr; injection h with h; exact ⟨_, _, _, _, _, r, rfl, rfl, by simp [eqL], hr, h.symm⟩
    · cases h
  · rename_i h1; injection h1 with h1 h1'; subst h1 h1'
    split at h
    · rename_i r hr; injection h with h; exact ⟨_, _, _, _, _, r, rfl, rfl, by simp [eqL], hr, h.symm⟩
    · cases h
  · cases h
theorem flat_run (d : Nat) : ∀ (fs : List Field) (ks : List Nat) (k : Nat) (l l' : List Value) (pre pre' : List Value) (b : Bool), flatFs P k fs = some ks → pre.length = k → pre'.length = k → eqL ks l l' = some b →
    ∀ w, (Op.eqFields (d + 1) (pre ++ l).toArray (pre' ++ l').toArray fs).run P w = .ok b w
  | [], ks, k, l, l', pre, pre', b, hf, h1, h2, he, w => by
    injection hf with hf; subst hf
    unfold eqL at he
    split at he <;> simp_all [Op.eqFields]
  | f :: fs, ks, k, l, l', pre, pre', b, hf, h1, h2, he, w => by
    unfold flatFs at hf
    split at hf
    · rename_i hc
      simp only [Bool.and_eq_true, bne_iff_ne, ne_eq] at hc
      have hc := And.intro (Nat.eq_of_beq_eq_true hc.1) hc.2
      split at hf
      · rename_i a ls ha hls
        injection hf with hf; subst hf
        obtain ⟨u, u', r, r', b1, b2, rfl, rfl, e1, e2, rfl⟩ := eqL_cons he
        have ho := flat_one ha
        have g1 : (pre ++ u :: r).toArray[f.offset]? = some u := by simp [hc.1, ← h1]
        have g2 : (pre' ++ u' :: r').toArray[f.offset]? = some u' := by simp [hc.1, ← h2]
        have ih := flat_run d fs ls (k + 1) r r' (pre ++ [u]) (pre' ++ [u']) b2 hls (by simp [h1]) (by simp [h2]) e2 w
        rw [List.append_assoc, List.append_assoc, List.singleton_append, List.singleton_append] at ih
        simp only [Op.eqFields, if_pos hc.2, Sem.run_bind, part_one ho g1, part_one ho g2, Result.andThen_ok, flat_cell ha e1]
        cases b1
        · simp
        · simpa using ih
      · cases hf
    · cases hf
theorem rd_stne {t u : TypeId} {x y : Operand} {ks : List Nat} {l l' : List Value} {b : Bool} (ht : tyFlat P t = some ks) (h : Ev n σ c x (.agg l.toArray)) (h' : Ev n σ c y (.agg l'.toArray)) (he : eqL ks l l' = some b) : Rd P n σ c wb (.binOp .neq t x y u) ty (.bool (!b)) := fun d pos after gd a ha hc w1 _ => by
  unfold tyFlat at ht
  split at ht
  · rename_i fs hfs
    split at ht
    · rename_i hk
      have hfo : P.fieldsOf t = fs := by simp [Program.fieldsOf, hfs]
      have k2 := run_equalIn_struct w1 9999 t l.toArray l'.toArray (by rw [hfo]; exact hfs) hk.1
      have k3 := flat_run 9998 fs.toList ks 0 l l' [] [] b ht rfl rfl he w1
      simp only [List.nil_append] at k3
      rw [hfo, k3] at k2
      simp [execOp, h a ha hc, h' a ha hc, run_eqGuard_agg w1 .neq t x y l.toArray l'.toArray hk.2, run_neq_struct, k2]
    · cases ht
  · cases ht

/-! an array's element, by value -/
def tyArr1 (P : Program) (t : TypeId) : Option Nat := match P.underlying t with
  | some (.array m e) => if tyOne P e = true ∧ tySize P e = some 1 then some m else none
  | _ => none
theorem rd_aidx {t m : Nat} {x y : Operand} {cs : Array Value} {k : IntKind} {i : Int} {v : Value} (ht : tyArr1 P t = some m) (h : Ev n σ c x (.agg cs)) (h' : Ev n σ c y (.int k i)) (hi : c → 0 ≤ i ∧ i < m) (hv : c → cs[i.toNat]? = some v) :
    Rd P n σ c wb (.index t x y) ty v := fun d pos after gd a ha hc w1 _ => by
  obtain ⟨h0, h1⟩ := hi hc
  unfold tyArr1 at ht
  split at ht
  · rename_i m' e hu
    split at ht
    · rename_i hk
      injection ht with ht; subst ht
      obtain ⟨ho, hz⟩ := hk
      unfold tySize at hz
      cases hi2 : P.info? e with
      | none => rw [hi2] at hz; cases hz
      | some inf =>
        rw [hi2] at hz; injection hz with hz
        have hs : (sizeOf e).run P w1 = .ok 1 w1 := by
          have := hz; simp [sizeOf, typeInfo, run_program, hi2, hz]
        simp [execOp, h a ha hc, h' a ha hc, Instr.index, asIntOf, run_underlying hu, h0, h1, hs, part_one ho (hv hc)]
    · cases ht
  · cases ht

/-! nil -/
def nilV : Value → Bool
  | .nilIface => true
  | _ => false
theorem rd_ine {t u : TypeId} {x : Operand} {e : Value} (ht : P.isIface t = true) (h : Ev n σ c x e) (he : e = .nilIface ∨ ∃ a b, e = .iface a b) : Rd P n σ c wb (.binOp .neq t x (.const .nilIface) u) ty (.bool (!nilV e)) := fun d pos after gd a ha hc w1 _ => by
  rcases he with rfl | ⟨t1, u1, rfl⟩
  · simp [execOp, h a ha hc, eval_const, eqGuard, binOp, Op.equal, Op.maxDepth, run_equalIn_nil_nil_at w1 9999 t ht, nilV]
  · simp [execOp, h a ha hc, eval_const, eqGuard, binOp, Op.equal, Op.maxDepth, run_equalIn_iface_nil w1 9999 t ht, nilV]
def tyPtr (P : Program) (t : TypeId) : Bool := match P.underlying t with | some (.pointer _) => true | _ => false
/-! slices of slices -/
theorem run_size {e : TypeId} {i : TypeInfo} (hi : P.info? e = some i) (w : World) : (sizeOf e).run P w = .ok i.size w := by simp [sizeOf, typeInfo, run_program, hi]
/-- A function as a value. -/
theorem rd_func {f : FuncId} {fs cs : Array Operand} {vs us : List Value} (h : EvArgs n σ c fs.toList vs) (h' : EvArgs n σ c cs.toList us) : Rd P n σ c wb (.makeFunc (.func f) fs cs) ty (.func (.func f) vs.toArray us.toArray) := fun d pos after gd a ha hc w1 _ => by
  have e1 := h a ha hc
  have e2 := h' a ha hc
  have e3 : fs.map a.eval = vs.toArray := by rw [← e1, ← Array.toList_map, Array.toArray_toList]
  have e4 : cs.map a.eval = us.toArray := by rw [← e2, ← Array.toList_map, Array.toArray_toList]
  simp [execOp, Instr.makeFunc, e3, e4]
def tyConc (P : Program) (t : TypeId) : Bool := match P.underlying t with | some (.interface _) => false | some _ => true | none => false
/-! numbers of other sizes -/
def tyInt (P : Program) (t : TypeId) : Option IntKind := match P.underlying t with | some (.int k) => some k | _ => none
theorem rd_subr {t u : TypeId} {x y : Operand} {k : IntKind} {i j r : Int} (h : Ev n σ c x (.int k i)) (h' : Ev n σ c y (.int k j)) (hr : c → k.wrap (i - j) = r) : Rd P n σ c wb (.binOp .sub t x y u) ty (.int k r) := fun d pos after gd a ha hc w1 hg => by
  have := rd_subw (P := P) (t := t) (u := u) (wb := wb) (ty := ty) h h' d pos after gd a ha hc w1 hg
  rw [hr hc] at this; exact this
/-! results that lie in cells -/
def rdRes (tmps : Array Value) : ResultVar → Sem Value
  | .tmp t => pure (tmps.getD t undef)
  | .cell a t => do loadVar t (← asAddr (tmps.getD a undef))
def EvR (P : Program) (n : Nat) (σ : List Ent) (w : World) (rs : List ResultVar) (vs : List Value) : Prop := ∀ a, Kn n σ a → (rs.mapM (rdRes a.tmps)).run P w = .ok vs w
theorem evr_nil {w : World} : EvR P n σ w [] [] := fun _ _ => rfl
theorem evr_cons {w : World} {r : ResultVar} {rs : List ResultVar} {vs : List Value} (h : ∀ a, Kn n σ a → (rdRes a.tmps r).run P w = .ok v w) (k : EvR P n σ w rs vs) : EvR P n σ w (r :: rs) (v :: vs) := fun a ha => by
  have h1 := h a ha
  have h2 := k a ha
  rw [List.mapM_cons]
  simp only [Sem.run_bind, Sem.run_pure, h1, h2, Result.andThen_ok]
theorem evr_t {w : World} {t : Nat} {rs : List ResultVar} {vs : List Value} (h : look σ t = some (True, v)) (k : EvR P n σ w rs vs) : EvR P n σ w (.tmp t :: rs) (v :: vs) := evr_cons (fun a ha => by
  have := ha.at_ h trivial
  simp [rdRes, this]) k
theorem evr_c {w : World} {t b o z : Nat} {T : TypeId} {l : List Value} {rs : List ResultVar} {vs : List Value} (h : look σ t = some (True, .pointer (some ⟨b, o, none⟩))) (ht : tyAgg P T = some z) (hl : l.length = z) (hc : RowAt w b o l) (k : EvR P n σ w rs vs) : EvR P n σ w (.cell t T :: rs) (.agg l.toArray :: vs) := evr_cons (fun a ha => by
  have := ha.at_ h trivial
  have h2 := loadVar_agg ht hl hc
  simp [rdRes, this, asAddr, h2]) k
theorem t_retv {fn : Func} {R : Value → World → Prop} {w : World} {rs : List ResultVar} {vs : List Value} (hr : fn.results = rs.toArray) (h2 : Nat.beq rs.length 1 = false) (hl : EvR P n σ w rs vs) (hlen : vs.length = rs.length) (h : R (.tuple vs.toArray) w) :
    ∀ a, Kn n σ a → bodyPost P fn (fun e w' => ∃ v, e = .returned v ∧ R v w') .ret a w := fun a ha => by
  refine bodyPost_ret (v := .tuple vs.toArray) ?_ ha.2.1 ⟨_, rfl, h⟩
  have h1 := hl a ha
  have hres : results fn a.tmps = (do let vs ← fn.results.mapM (rdRes a.tmps); pure (if h : vs.size = 1 then vs[0] else .tuple vs)) := by
    unfold results
    congr 1
  rw [hres, hr, Array.mapM_eq_mapM_toList]
  simp only [Sem.run_bind, Sem.run_map, h1, Result.andThen_ok]
  have hn : vs.length ≠ 1 := by rw [hlen]; intro he; rw [he] at h2; cases h2
  simp [hn]
theorem t_retv1 {fn : Func} {R : Value → World → Prop} {w : World} {r : ResultVar} (hr : fn.results = #[r]) (hl : EvR P n σ w [r] [v]) (h : R v w) :
    ∀ a, Kn n σ a → bodyPost P fn (fun e w' => ∃ v, e = .returned v ∧ R v w') .ret a w := fun a ha => by
  refine bodyPost_ret (v := v) ?_ ha.2.1 ⟨_, rfl, h⟩
  have h1 := hl a ha
  have hres : results fn a.tmps = (do let vs ← fn.results.mapM (rdRes a.tmps); pure (if h : vs.size = 1 then vs[0] else .tuple vs)) := by
    unfold results
    congr 1
  rw [hres, hr, Array.mapM_eq_mapM_toList]
  simp only [Sem.run_bind, Sem.run_map, h1, Result.andThen_ok]
  simp
end
end Go.Rk
namespace Go.Rk
open Go Go.RowKit
set_option linter.unusedVariables false
/-- Growth but for one block. -/
abbrev GX (row : Option Nat) (w w' : World) : Prop := w.grownBy w' row
theorem GX.refl (row : Option Nat) (w : World) : GX row w w := (G.refl w).only row
/-- An effect in its turn, as Eff, under another relation. -/
def EffQ (P : Program) (Z : List PanicEntry → Act → World → Prop) (row : Option Nat) (gr : Bool) (o : Oper) (a : Act) (w : World) (next : Act → World → Prop) : Prop :=
  (∃ v w', (execOp a.eval o).run P w = .ok (.value v) w' ∧ (gr = true → GX row w w') ∧ next (a.put o.dst v) w') ∨
  (∃ w', (execOp a.eval o).run P w = .ok .skip w' ∧ (gr = true → GX row w w') ∧ next (a.put o.dst undef) w') ∨
  (∃ f args, (execOp a.eval o).run P w = .ok (.enter f args) w ∧ Calls P f args w fun e w' => (∃ v, e = .returned v ∧ (gr = true → GX row w w') ∧ next (a.put o.dst v) w') ∨ (∃ ch, e = .panicked ch ∧ Z ch a w')) ∨
  (∃ l f tmps asg body, (execOp a.eval o).run P w = .ok (.round l f tmps asg body) w ∧ RoundIn Fence.wide 0 P l f tmps asg body w fun e w' => ∃ v, e = .returned v ∧ (gr = true → GX row w w') ∧ next (a.put o.dst v) w')
theorem EffQ.wpIn {P : Program} {Z : List PanicEntry → Act → World → Prop} {row : Option Nat} {gr : Bool} {o : Oper} {a : Act} {w : World} {next : Act → World → Prop} {Q : Exit → Act → World → Prop} {ρ : Option Nat}
    (h : EffQ P Z row gr o a w next) (hZ : ∀ ch w', Z ch a w' → Q (.panic ch) a w') : o.wpIn (WF ρ) 0 P a w next Q := by
  refine Eff.wpIn (Z := Z) (gr := false) ?_ hZ
  rcases h with ⟨v, w', hr, _, hn⟩ | ⟨w', hr, _, hn⟩ | ⟨f, args, hr, hc⟩ | ⟨l, f, tmps, asg, body, hr, hc⟩
  · exact .inl ⟨v, w', hr, (fun h => by cases h), hn⟩
  · exact .inr (.inl ⟨w', hr, (fun h => by cases h), hn⟩)
  · refine .inr (.inr (.inl ⟨f, args, hr, Calls.mono hc fun e w' h => ?_⟩))
    rcases h with ⟨v, e1, _, h1⟩ | ⟨ch, e1, h1⟩
    · exact .inl ⟨v, e1, (fun h => by cases h), h1⟩
    · exact .inr ⟨ch, e1, h1⟩
  · refine .inr (.inr (.inr ⟨l, f, tmps, asg, body, hr, RoundIn.mono hc fun e w' h => ?_⟩))
    obtain ⟨v, e1, _, h1⟩ := h
    exact ⟨v, e1, (fun h => by cases h), h1⟩
theorem EffQ.turn {P : Program} {Z Z' : List PanicEntry → Act → World → Prop} {row : Option Nat} {gr : Bool} {o : Oper} {a b : Act} {w : World} {next next' : Act → World → Prop} (he : execOp b.eval o = execOp a.eval o)
    (hz : ∀ ch w', Z ch a w' → Z' ch b w')
    (hn : ∀ v w', (gr = true → GX row w w') → next (a.put o.dst v) w' → next' (b.put o.dst v) w') (h : EffQ P Z row gr o a w next) : EffQ P Z' row gr o b w next' := by
  rcases h with ⟨v, w', hr, hg, h1⟩ | ⟨w', hr, hg, h1⟩ | ⟨f, args, hr, hc⟩ | ⟨l, f, tmps, asg, body, hr, hc⟩
  · exact .inl ⟨v, w', by rw [he]; exact hr, hg, hn _ _ hg h1⟩
  · exact .inr (.inl ⟨w', by rw [he]; exact hr, hg, hn _ _ hg h1⟩)
  · refine .inr (.inr (.inl ⟨f, args, by rw [he]; exact hr, Calls.mono hc fun e w' h => ?_⟩))
    rcases h with ⟨v, e1, hg, h1⟩ | ⟨ch, e1, h1⟩
    · exact .inl ⟨v, e1, hg, hn _ _ hg h1⟩
    · exact .inr ⟨ch, e1, hz _ _ h1⟩
  · refine .inr (.inr (.inr ⟨l, f, tmps, asg, body, by rw [he]; exact hr, RoundIn.mono hc fun e w' h => ?_⟩))
    obtain ⟨v, e1, hg, h1⟩ := h
    exact ⟨v, e1, hg, hn _ _ hg h1⟩
def Avail (wt : Nat → Nat → Bool) (L : List Nat) (j : Nat) : Prop := ∀ i ∈ L, wt j i = false
section
variable (P : Program) (Z : List PanicEntry → Act → World → Prop) (ops : Array Oper) (cl : Nat → Nat) (wt : Nat → Nat → Bool) (row : Option Nat) (K : Act → World → Prop)
def RT : Nat → List Nat → Act → World → Prop
  | 0, L, a, w => L = [] ∧ K a w
  | n + 1, L, a, w =>
    (∃ r, r ∈ L ∧ Avail wt L r ∧ (cl r = 0 ∨ cl r = 3) ∧ ∃ o, ops[r]? = some o ∧ ∃ v, (Region.wanted o (yielded ops a.tmps) = true → ∀ w1, cl r = 3 ∨ GX row w w1 → (execOp a.eval o).run P w1 = .ok (.value v) w1) ∧
      (Region.wanted o (yielded ops a.tmps) = false → v = undef) ∧ RT n (L.erase r) (a.put o.dst v) w) ∨
    ((∀ r ∈ L, Avail wt L r → ¬ (cl r = 0 ∨ cl r = 3)) ∧ ∀ j ∈ L, Avail wt L j → ∃ o, ops[j]? = some o ∧
      if Region.wanted o (yielded ops a.tmps) = true then EffQ P Z row (cl j == 1) o a w (fun a' w' => RT n (L.erase j) a' w') else RT n (L.erase j) (a.put o.dst undef) w)
end
section
variable {P : Program} {Z : List PanicEntry → Act → World → Prop} {ops : Array Oper} {cl : Nat → Nat} {wt : Nat → Nat → Bool} {row : Option Nat} {K : Act → World → Prop}
structure OkayT (ops : Array Oper) (cl : Nat → Nat) (wt : Nat → Nat → Bool) : Prop where
  sel : ∀ (j : Nat) (o : Oper) cs b, ops[j]? = some o → o.op ≠ .select cs b
  way : ∀ (j : Nat) (o : Oper) (i : Nat), ops[j]? = some o → wt j i = true → ∃ e, e ∈ o.after ∧ Region.binds .any e = true ∧ (e.on = i ∨ wt e.on i = true)
  lt : ∀ (j : Nat) (o : Oper) (e : Edge), ops[j]? = some o → e ∈ o.after → Region.binds .any e = true → e.on < j
  pair : ∀ (i j : Nat) (oi oj : Oper), i < j → ops[i]? = some oi → ops[j]? = some oj → wt j i = false → (¬ (cl i = 0 ∨ cl i = 3) ∧ ¬ (cl j = 0 ∨ cl j = 3)) ∨ (oi.apart ops oj = true ∧ (cl i = 3 ∨ cl j = 3 ∨ (cl i = 0 ∧ cl j ≤ 1) ∨ (cl j = 0 ∧ cl i ≤ 1)))
/-- What a read and another operation that may come in either order share: nothing. -/
theorem OkayT.both (ok : OkayT ops cl wt) {r j : Nat} {or oj : Oper} (hr : ops[r]? = some or) (hj : ops[j]? = some oj) (hne : r ≠ j) (h1 : wt r j = false) (h2 : wt j r = false) (hc : cl r = 0 ∨ cl r = 3) :
    ((∀ d, or.dst = some d → d ∉ oj.looksAt ops) ∧ (∀ d, or.dst = some d → oj.dst ≠ some d) ∧ (∀ d, oj.dst = some d → d ∉ or.looksAt ops)) ∧ (cl r = 3 ∨ (cl r = 0 ∧ (cl j = 3 ∨ cl j ≤ 1))) := by
  rcases Nat.lt_or_gt_of_ne hne with hlt | hlt
  · rcases ok.pair r j or oj hlt hr hj h2 with h | ⟨h, hh⟩
    · exact absurd hc h.1
    · refine ⟨Oper.apart_spec h, ?_⟩
      rcases hc with hc | hc
      · right; refine ⟨hc, ?_⟩; omega
      · exact .inl hc
  · rcases ok.pair j r oj or hlt hj hr h1 with h | ⟨h, hh⟩
    · exact absurd hc h.2
    · obtain ⟨p1, p2, p3⟩ := Oper.apart_spec h
      refine ⟨⟨p3, fun d hd he => p2 d he hd, p1⟩, ?_⟩
      rcases hc with hc | hc
      · right; refine ⟨hc, ?_⟩; omega
      · exact .inl hc
theorem Avail.erase {L : List Nat} {j r : Nat} (h : Avail wt L j) : Avail wt (L.erase r) j := fun i hi => h i (List.mem_of_mem_erase hi)
theorem gx_trans {row : Option Nat} {a b c : World} (h : GX row a b) (k : GX row b c) : GX row a c := grownBy_trans h k
theorem front_rdT (ok : OkayT ops cl wt) {j : Nat} {oj : Oper} (hj : ops[j]? = some oj) (hcj : cl j = 0 ∨ cl j = 3) :
    ∀ (n : Nat) (L : List Nat) (a : Act) (w : World), L.length = n + 1 → L.Nodup → j ∈ L → Avail wt L j → RT P Z ops cl wt row K (n + 1) L a w →
    ∃ v, (Region.wanted oj (yielded ops a.tmps) = true → ∀ w1, cl j = 3 ∨ GX row w w1 → (execOp a.eval oj).run P w1 = .ok (.value v) w1) ∧
      (Region.wanted oj (yielded ops a.tmps) = false → v = undef) ∧ RT P Z ops cl wt row K n (L.erase j) (a.put oj.dst v) w := by
  intro n
  induction n with
  | zero =>
    intro L a w hn nd hm hav h
    obtain ⟨x, rfl⟩ : ∃ x, L = [x] := List.length_eq_one_iff.1 hn
    obtain rfl : j = x := List.mem_singleton.1 hm
    rcases h with ⟨r, hr, hra, hc, o, ho, v, h1, h2, h3⟩ | ⟨hno, _⟩
    · obtain rfl : r = j := List.mem_singleton.1 hr
      obtain rfl : o = oj := Option.some.inj (ho.symm.trans hj)
      exact ⟨v, h1, h2, h3⟩
    · exact absurd hcj (hno j hm hav)
  | succ n ih =>
    intro L a w hn nd hm hav h
    rcases h with ⟨r, hr, hra, hc, o, ho, u, h1, h2, h3⟩ | ⟨hno, _⟩
    · by_cases hrj : r = j
      · subst hrj
        obtain rfl : o = oj := Option.some.inj (ho.symm.trans hj)
        exact ⟨u, h1, h2, h3⟩
      · obtain ⟨⟨p1, p2, p3⟩, _⟩ := ok.both ho hj hrj (hra j hm) (hav r hr) hc
        have evj : ∀ v, execOp (a.put o.dst v).eval oj = execOp a.eval oj := fun v => execOp_put (ops := ops) oj (fun cs b => ok.sel j oj cs b hj) a o.dst v p1
        have waj : ∀ v, Region.wanted oj (yielded ops (a.put o.dst v).tmps) = Region.wanted oj (yielded ops a.tmps) := fun v => wanted_put oj a o.dst v p1
        have evi : ∀ v, execOp (a.put oj.dst v).eval o = execOp a.eval o := fun v => execOp_put (ops := ops) o (fun cs b => ok.sel r o cs b ho) a oj.dst v p3
        have wai : ∀ v, Region.wanted o (yielded ops (a.put oj.dst v).tmps) = Region.wanted o (yielded ops a.tmps) := fun v => wanted_put o a oj.dst v p3
        have hmj : j ∈ L.erase r := nd.mem_erase_iff.2 ⟨fun h => hrj h.symm, hm⟩
        have hmr : r ∈ L.erase j := nd.mem_erase_iff.2 ⟨hrj, hr⟩
        obtain ⟨v, k1, k2, k3⟩ := ih (L.erase r) _ w (by rw [List.length_erase_of_mem hr]; omega) (nd.erase r) hmj hav.erase h3
        rw [waj] at k1 k2
        rw [evj] at k1
        refine ⟨v, k1, k2, .inl ⟨r, hmr, hra.erase, hc, o, ho, u, ?_, ?_, ?_⟩⟩
        · rw [wai, evi]; exact h1
        · rw [wai]; exact h2
        · rw [List.erase_comm, ← Act.put_comm a u v p2]; exact k3
    · exact absurd hcj (hno j hm hav)
theorem front_effT (hZs : ∀ ch (a : Act) d v w, Z ch (a.put d v) w → Z ch a w) (ok : OkayT ops cl wt) {j : Nat} {oj : Oper} (hj : ops[j]? = some oj) (hcj : ¬ (cl j = 0 ∨ cl j = 3)) :
    ∀ (n : Nat) (L : List Nat) (a : Act) (w : World), L.length = n + 1 → L.Nodup → j ∈ L → Avail wt L j → RT P Z ops cl wt row K (n + 1) L a w →
    if Region.wanted oj (yielded ops a.tmps) = true then EffQ P Z row (cl j == 1) oj a w (fun a' w' => RT P Z ops cl wt row K n (L.erase j) a' w')
    else RT P Z ops cl wt row K n (L.erase j) (a.put oj.dst undef) w := by
  intro n
  induction n with
  | zero =>
    intro L a w hn nd hm hav h
    obtain ⟨x, rfl⟩ : ∃ x, L = [x] := List.length_eq_one_iff.1 hn
    obtain rfl : j = x := List.mem_singleton.1 hm
    rcases h with ⟨r, hr, hra, hc, _⟩ | ⟨_, hall⟩
    · obtain rfl : r = j := List.mem_singleton.1 hr
      exact absurd hc hcj
    · obtain ⟨o, ho, hb⟩ := hall j hm hav
      obtain rfl : o = oj := Option.some.inj (ho.symm.trans hj)
      exact hb
  | succ n ih =>
    intro L a w hn nd hm hav h
    rcases h with ⟨r, hr, hra, hc, o, ho, u, h1, h2, h3⟩ | ⟨_, hall⟩
    · have hrj : r ≠ j := fun e => hcj (e ▸ hc)
      obtain ⟨⟨p1, p2, p3⟩, hq⟩ := ok.both ho hj hrj (hra j hm) (hav r hr) hc
      have evj : ∀ v, execOp (a.put o.dst v).eval oj = execOp a.eval oj := fun v => execOp_put (ops := ops) oj (fun cs b => ok.sel j oj cs b hj) a o.dst v p1
      have waj : ∀ v, Region.wanted oj (yielded ops (a.put o.dst v).tmps) = Region.wanted oj (yielded ops a.tmps) := fun v => wanted_put oj a o.dst v p1
      have evi : ∀ v, execOp (a.put oj.dst v).eval o = execOp a.eval o := fun v => execOp_put (ops := ops) o (fun cs b => ok.sel r o cs b ho) a oj.dst v p3
      have wai : ∀ v, Region.wanted o (yielded ops (a.put oj.dst v).tmps) = Region.wanted o (yielded ops a.tmps) := fun v => wanted_put o a oj.dst v p3
      have hmj : j ∈ L.erase r := nd.mem_erase_iff.2 ⟨fun h => hrj h.symm, hm⟩
      have hmr : r ∈ L.erase j := nd.mem_erase_iff.2 ⟨hrj, hr⟩
      have k := ih (L.erase r) _ w (by rw [List.length_erase_of_mem hr]; omega) (nd.erase r) hmj hav.erase h3
      rw [waj] at k
      have back : ∀ x w', (cl j = 1 → GX row w w') → RT P Z ops cl wt row K n ((L.erase r).erase j) ((a.put o.dst u).put oj.dst x) w' → RT P Z ops cl wt row K (n + 1) (L.erase j) (a.put oj.dst x) w' := by
        intro x w' hg hk
        refine .inl ⟨r, hmr, hra.erase, hc, o, ho, u, ?_, ?_, ?_⟩
        · rw [wai, evi]
          intro hw w1 hg1
          refine h1 hw w1 ?_
          rcases hg1 with hg1 | hg1
          · exact .inl hg1
          · rcases hq with hq | ⟨_, hq⟩
            · exact .inl hq
            · refine .inr (gx_trans (hg ?_) hg1)
              have : ¬ cl j = 0 := fun e => hcj (.inl e)
              have : ¬ cl j = 3 := fun e => hcj (.inr e)
              omega
        · rw [wai]; exact h2
        · rw [List.erase_comm, ← Act.put_comm a u x p2]; exact hk
      by_cases hwj : Region.wanted oj (yielded ops a.tmps) = true
      · rw [if_pos hwj] at k ⊢
        exact k.turn (evj u).symm (fun ch w' h => hZs _ _ _ _ _ h) fun x w' hg hk => back x w' (fun h => hg (by simp [h])) hk
      · rw [if_neg hwj] at k ⊢
        exact back _ _ (fun _ => GX.refl _ _) k
    · obtain ⟨o, ho, hb⟩ := hall j hm hav
      obtain rfl : o = oj := Option.some.inj (ho.symm.trans hj)
      exact hb
theorem Left.waitsT (ok : OkayT ops cl wt) {L : List Nat} {listed : Array Bool} (hL : Left ops L listed) :
    ∀ (n j : Nat) (oj : Oper), j ≤ n → ops[j]? = some oj → (∀ e ∈ oj.after, Region.binds .any e = true → e.on ∉ L) → ∀ i ∈ L, wt j i = false := by
  intro n
  induction n with
  | zero =>
    intro j oj hjn hj _ i _
    cases hw : wt j i with
    | false => rfl
    | true =>
      obtain ⟨e, he, hb, _⟩ := ok.way j oj i hj hw
      have := ok.lt j oj e hj he hb
      omega
  | succ n ih =>
    intro j oj hjn hj hall i hi
    cases hw : wt j i with
    | false => rfl
    | true =>
      obtain ⟨e, he, hb, hh⟩ := ok.way j oj i hj hw
      have hlt := ok.lt j oj e hj he hb
      have hnot := hall e he hb
      rcases hh with rfl | hh
      · exact absurd hi hnot
      · have hes : e.on < ops.size := by have := (Array.getElem?_eq_some_iff.1 hj).1; omega
        have hoe : ops[e.on]? = some ops[e.on] := Array.getElem?_eq_getElem hes
        have := ih e.on _ (by omega) hoe (hL.closed e.on _ hoe hnot) i hi
        rw [this] at hh; cases hh
theorem any_of_RT {ρ : Option Nat} (hZs : ∀ ch (a : Act) d v w, Z ch (a.put d v) w → Z ch a w) (ok : OkayT ops cl wt) {Q : Exit → Act → World → Prop} (hQ : ∀ a w, K a w → Q .normal a w) (hZ : ∀ ch a w, Z ch a w → Q (.panic ch) a w) :
    ∀ (n : Nat) (L : List Nat) (listed : Array Bool) (a : Act) (w : World), L.length = n → Left ops L listed → RT P Z ops cl wt row K n L a w → wpAnyIn (WF ρ) 0 P .any ops Q n listed a w := by
  intro n
  induction n with
  | zero =>
    intro L listed a w hn hL h
    obtain rfl : L = [] := List.eq_nil_of_length_eq_zero hn
    refine ⟨?_, hQ _ _ h.2⟩
    refine List.eq_nil_iff_forall_not_mem.2 fun j hj => ?_
    obtain ⟨h0, o, ho, _⟩ := mem_ready.1 hj
    have := (hL.mem j).2 ⟨(Array.getElem?_eq_some_iff.1 ho).1, h0⟩
    cases this
  | succ n ih =>
    intro L listed a w hn hL h
    have nd : L.Nodup := hL.sorted.imp (fun h => Nat.ne_of_lt h)
    have inL : ∀ j, j ∈ Region.ready .any ops listed → ∃ oj, ops[j]? = some oj ∧ j ∈ L ∧ ∀ e ∈ oj.after, Region.binds .any e = true → e.on ∉ L := by
      intro j hj
      obtain ⟨h0, oj, ho, hall⟩ := mem_ready.1 hj
      have hjs := (Array.getElem?_eq_some_iff.1 ho).1
      refine ⟨oj, ho, (hL.mem j).2 ⟨hjs, h0⟩, fun e he hb hm => ?_⟩
      have h1 := hall e he hb
      obtain ⟨h2, h3⟩ := (hL.mem e.on).1 hm
      have h4 : e.on < listed.size := by rw [hL.size]; exact h2
      simp [h4] at h1 h3
      rw [h1] at h3; cases h3
    refine ⟨fun h0 => ?_, fun j hj => ?_⟩
    · exfalso
      match L, hn, hL with
      | i :: rest, _, hL =>
        have him := (hL.mem i).1 List.mem_cons_self
        have hoi : ops[i]? = some ops[i] := Array.getElem?_eq_getElem him.1
        have : i ∈ Region.ready .any ops listed := by
          refine mem_ready.2 ⟨him.2, _, hoi, fun e he hb => ?_⟩
          have hlt := ok.lt i _ e hoi he hb
          have hno : e.on ∉ i :: rest := by
            intro hm
            rcases List.mem_cons.1 hm with hm | hm
            · omega
            · have := (List.pairwise_cons.1 hL.sorted).1 _ hm; omega
          have hes : e.on < listed.size := by rw [hL.size]; omega
          cases hl : listed.getD e.on true with
          | false => exact absurd ((hL.mem e.on).2 ⟨by rw [← hL.size]; exact hes, hl⟩) hno
          | true => simpa [hes] using hl
        rw [h0] at this; cases this
    · obtain ⟨oj, hoj, hjL, hall⟩ := inL j hj
      have hws : ∀ i ∈ L, wt j i = false := hL.waitsT ok j j oj (Nat.le_refl _) hoj hall
      have hL' := hL.step hoj hall
      have hlen : (L.erase j).length = n := by rw [List.length_erase_of_mem hjL]; omega
      unfold wpOpIn
      simp only [hoj]
      by_cases hc : cl j = 0 ∨ cl j = 3
      · obtain ⟨v, h1, h2, h3⟩ := front_rdT ok hoj hc n L a w hn nd hjL hws h
        have hnext := ih (L.erase j) _ (a.put oj.dst v) w hlen hL' h3
        by_cases hwj : Region.wanted oj (yielded ops a.tmps) = true
        · rw [if_pos hwj]
          have hr := h1 hwj w (.inr (GX.refl _ _))
          refine ⟨fun _ _ => trivial, ?_⟩
          rw [semAt_of hr (fun d h => by cases h), hr]
          exact hnext
        · rw [if_neg hwj]
          have := h2 (by simpa using hwj)
          subst this
          exact ⟨fun _ _ => trivial, hnext⟩
      · have h1 := front_effT hZs ok hoj hc n L a w hn nd hjL hws h
        by_cases hwj : Region.wanted oj (yielded ops a.tmps) = true
        · rw [if_pos hwj] at h1 ⊢
          refine EffQ.wpIn (Z := Z) (gr := cl j == 1) (row := row) ?_ (fun ch w' h => hZ _ _ _ h)
          exact h1.turn rfl (fun _ _ h => h) fun v w' _ hk => ih (L.erase j) _ _ w' hlen hL' hk
        · rw [if_neg hwj] at h1 ⊢
          exact ⟨fun _ _ => trivial, ih (L.erase j) _ _ w hlen hL' h1⟩
theorem wpIn_drawT {ρ : Option Nat} (hZs : ∀ ch (a : Act) d v w, Z ch (a.put d v) w → Z ch a w) (ok : OkayT ops cl wt) {id : Nat} {Q : Exit → Act → World → Prop} (hZ : ∀ ch a w, Z ch a w → Q (.panic ch) a w) {a : Act} {w : World} (hm : P.follows .mixedOrders = true)
    (h : RT P Z ops cl wt row (fun a w => Q .normal a w) ops.size (List.range ops.size) a w.drew) : (Code.region id ops true).wpIn (WF ρ) 0 P Q a w := by
  refine wpIn_region_any hm ?_
  have := any_of_RT (Q := Q) (ρ := ρ) hZs ok (fun _ _ h => h) hZ ops.size (List.range ops.size) (Array.replicate ops.size false) a w.drew (by simp) (left_start ops) h
  simpa using this
theorem wp_drawT (ok : OkayT ops cl wt) {id : Nat} {Q : Exit → Act → World → Prop} {a : Act} {w : World} (hm : P.follows .mixedOrders = true)
    (h : RT P NoP ops cl wt row (fun a w => Q .normal a w) ops.size (List.range ops.size) a w.drew) : (Code.region id ops true).wp P Q a w :=
  wpIn_wide.1 (wpIn_drawT (ρ := none) (fun _ _ _ _ _ h => h) ok (fun _ _ _ h => h.elim) hm h)
end

/-! a look at the region's text -/
def lookT (ops : Array Oper) (cl : List Nat) (ms : List Nat) (E : List (Nat × Oper × Nat)) (k : Nat) (o : Oper) : Bool :=
  noSel o && o.after.toList.all (fun e => !Region.binds .any e || Nat.blt e.on k) && Nat.beq (ms.getD k 0) (maskOf ms o.after.toList) &&
  E.all (fun p => (ms.getD k 0).testBit p.1 || (!(Nat.beq p.2.2 0 || Nat.beq p.2.2 3) && !(Nat.beq (clOf cl k) 0 || Nat.beq (clOf cl k) 3)) || (p.2.1.apart ops o && (Nat.beq p.2.2 3 || Nat.beq (clOf cl k) 3 || (Nat.beq p.2.2 0 && Nat.ble (clOf cl k) 1) || (Nat.beq (clOf cl k) 0 && Nat.ble p.2.2 1))))
def lookFromT (ops : Array Oper) (cl : List Nat) (ms : List Nat) : List (Nat × Oper × Nat) → Nat → List Oper → Bool
  | _, _, [] => true
  | E, k, o :: rest => lookT ops cl ms E k o && lookFromT ops cl ms ((k, o, clOf cl k) :: E) (k + 1) rest
def okT (l : List Oper) (cl : List Nat) (ms : List Nat) : Bool := lookFromT l.toArray cl ms [] 0 l && Nat.ble ms.length l.length
theorem lookFromT_spec (ops : Array Oper) (cl : List Nat) (ms : List Nat) : ∀ (l : List Oper) (E : List (Nat × Oper × Nat)) (k : Nat),
    (∀ j, l[j]? = ops[k + j]?) → (∀ i, i < k → ∃ oi, ops[i]? = some oi ∧ (i, oi, clOf cl i) ∈ E) → lookFromT ops cl ms E k l = true →
    ∀ j oj, k ≤ j → ops[j]? = some oj → ∃ E', (∀ i, i < j → ∃ oi, ops[i]? = some oi ∧ (i, oi, clOf cl i) ∈ E') ∧ lookT ops cl ms E' j oj = true
  | [], _, k, hl, _, _ => by
    intro j oj hkj hj
    have := hl (j - k)
    rw [show k + (j - k) = j by omega, hj] at this
    simp at this
  | o :: rest, E, k, hl, hE, h => by
    intro j oj hkj hj
    unfold lookFromT at h
    rw [Bool.and_eq_true] at h
    have h0 : ops[k]? = some o := by simpa using (hl 0).symm
    by_cases hjk : j = k
    · subst hjk
      obtain rfl : o = oj := Option.some.inj (h0.symm.trans hj)
      exact ⟨E, hE, h.1⟩
    · refine lookFromT_spec ops cl ms rest ((k, o, clOf cl k) :: E) (k + 1) (fun j => by have := hl (j + 1); simpa [Nat.add_assoc, Nat.add_comm 1 j] using this) ?_ h.2 j oj (by omega) hj
      intro i hi
      by_cases hik : i = k
      · subst hik
        exact ⟨o, h0, List.mem_cons_self⟩
      · obtain ⟨oi, h1, h2⟩ := hE i (by omega)
        exact ⟨oi, h1, List.mem_cons_of_mem _ h2⟩
theorem okayT_of {l : List Oper} {cl : List Nat} {ms : List Nat} (h : okT l cl ms = true) : OkayT l.toArray (clOf cl) (wtOf ms) := by
  unfold okT at h
  rw [Bool.and_eq_true] at h
  obtain ⟨h, hml⟩ := h
  have S := lookFromT_spec l.toArray cl ms l [] 0 (by simp) (fun i hi => absurd hi (by omega)) h
  have at_ : ∀ j oj, l.toArray[j]? = some oj → ∃ E', (∀ i, i < j → ∃ oi, l.toArray[i]? = some oi ∧ (i, oi, clOf cl i) ∈ E') ∧ lookT l.toArray cl ms E' j oj = true := fun j oj hj => S j oj (Nat.zero_le _) hj
  refine ⟨?_, ?_, ?_, ?_⟩
  · intro j o cs b hj heq
    obtain ⟨E', _, hh⟩ := at_ j o hj
    simp [lookT, noSel, heq] at hh
  · intro j o i hj hw
    obtain ⟨E', _, hh⟩ := at_ j o hj
    simp only [lookT, Bool.and_eq_true] at hh
    have hm := Nat.eq_of_beq_eq_true hh.1.2
    unfold wtOf at hw
    rw [hm] at hw
    obtain ⟨e, h1, h2⟩ := mask_spec ms i _ hw
    exact ⟨e, Array.mem_toList_iff.1 h1, h2⟩
  · intro j o e hj he hb
    obtain ⟨E', _, hh⟩ := at_ j o hj
    simp only [lookT, Bool.and_eq_true, List.all_eq_true, Array.mem_toList_iff, Bool.or_eq_true, Bool.not_eq_true'] at hh
    rcases hh.1.1.2 e he with h1 | h1
    · rw [hb] at h1; cases h1
    · exact Nat.le_of_ble_eq_true h1
  · intro i j oi oj hij hi hj hw
    obtain ⟨E', hE, hh⟩ := at_ j oj hj
    simp only [lookT, Bool.and_eq_true, List.all_eq_true] at hh
    obtain ⟨oi', h1, h2⟩ := hE i hij
    obtain rfl : oi' = oi := Option.some.inj (h1.symm.trans hi)
    have h3 := hh.2 _ h2
    unfold wtOf at hw
    dsimp only at h3
    rw [hw] at h3
    have e : ∀ (a b : Nat), Nat.beq a b = true ↔ a = b := fun a b => ⟨Nat.eq_of_beq_eq_true, fun h => by subst h; exact Nat.beq_refl a⟩
    have e' : ∀ (a b : Nat), Nat.ble a b = true ↔ a ≤ b := fun a b => ⟨Nat.le_of_ble_eq_true, Nat.ble_eq_true_of_le⟩
    simp only [Bool.false_or, Bool.or_eq_true, Bool.and_eq_true, Bool.not_eq_true', ← Bool.not_eq_true, e, e'] at h3
    rcases h3 with h3 | ⟨ha, h3⟩
    · exact .inl ⟨h3.1, h3.2⟩
    · refine .inr ⟨ha, ?_⟩
      rcases h3 with ((h3 | h3) | h3) | h3
      · exact .inl h3
      · exact .inr (.inl h3)
      · exact .inr (.inr (.inl h3))
      · exact .inr (.inr (.inr h3))
/-! the steps -/
def isRdB (cl : List Nat) (j : Nat) : Bool := Nat.beq (clOf cl j) 0 || Nat.beq (clOf cl j) 3
def availB (ms : List Nat) (L : List Nat) (j : Nat) : Bool := L.all fun i => !(wtOf ms j i)
def candB (cl ms L : List Nat) : List Nat := L.filter fun j => availB ms L j
theorem avail_iff (ms : List Nat) (L : List Nat) (j : Nat) : availB ms L j = true ↔ Avail (wtOf ms) L j := by
  unfold availB Avail; simp [List.all_eq_true]
theorem isRdB_iff (cl : List Nat) (j : Nat) : isRdB cl j = true ↔ (clOf cl j = 0 ∨ clOf cl j = 3) := by
  unfold isRdB; rw [Bool.or_eq_true]
  exact ⟨fun h => h.imp Nat.eq_of_beq_eq_true Nat.eq_of_beq_eq_true, fun h => h.imp (fun e => by rw [e]; rfl) (fun e => by rw [e]; rfl)⟩
def ST (P : Program) (Z : List PanicEntry → Act → World → Prop) (ops : List Oper) (cl ms : List Nat) (row : Option Nat) (n : Nat) (K : Act → World → Prop) (m : Nat) (L : List Nat) (σ : List Ent) (w : World) : Prop :=
  ∀ a, Kn n σ a → RT P Z ops.toArray (clOf cl) (wtOf ms) row K m L a w
section
variable {P : Program} {Z : List PanicEntry → Act → World → Prop} {ops : List Oper} {cl ms : List Nat} {row : Option Nat} {n : Nat} {K : Act → World → Prop} {m : Nat} {L L' : List Nat} {σ : List Ent} {w : World} {d : Nat} {op : Op} {ty : TypeId} {pos : String} {after : Array Edge} {v : Value}
theorem st_nil (h : ∀ a, Kn n σ a → K a w) : ST P Z ops cl ms row n K 0 [] σ w := fun a ha => ⟨rfl, h a ha⟩
theorem st_sub (τ : List Ent) (hs : Sub τ σ) (h : ST P Z ops cl ms row n K m L τ w) : ST P Z ops cl ms row n K m L σ w := fun a ha => h a (ha.sub hs)
theorem st_rd (r : Nat) (hr : ops.toArray[r]? = some ⟨some d, op, ty, pos, after, none⟩) (hb : (L.contains r && availB ms L r && Nat.beq (clOf cl r) 0 && Nat.blt d n) = true) (hL : L.erase r = L')
    (hv : ∀ w1, GX row w w1 → Rd P n σ True w1 op ty v) (h : ST P Z ops cl ms row n K m L' ((d, True, v) :: σ) w) : ST P Z ops cl ms row n K (m + 1) L σ w := fun a ha => by
  simp only [Bool.and_eq_true] at hb
  obtain ⟨⟨⟨h1, h2⟩, h3⟩, h4⟩ := hb
  refine .inl ⟨r, by simpa using h1, (avail_iff ms L r).1 h2, .inl (Nat.eq_of_beq_eq_true h3), _, hr, v, fun _ w1 hg => ?_, (fun hn => by cases hn), hL ▸ h _ (ha.put h4 (fun _ => rfl) (fun hn => absurd trivial hn))⟩
  rcases hg with hg | hg
  · rw [Nat.eq_of_beq_eq_true h3] at hg; cases hg
  · exact hv w1 hg _ _ _ _ a ha trivial w1 (G.refl _)
theorem st_pu (r : Nat) (hr : ops.toArray[r]? = some ⟨some d, op, ty, pos, after, none⟩) (hb : (L.contains r && availB ms L r && Nat.beq (clOf cl r) 3 && Nat.blt d n) = true) (hL : L.erase r = L')
    (hv : ∀ wb, Rd P n σ True wb op ty v) (h : ST P Z ops cl ms row n K m L' ((d, True, v) :: σ) w) : ST P Z ops cl ms row n K (m + 1) L σ w := fun a ha => by
  simp only [Bool.and_eq_true] at hb
  obtain ⟨⟨⟨h1, h2⟩, h3⟩, h4⟩ := hb
  exact .inl ⟨r, by simpa using h1, (avail_iff ms L r).1 h2, .inr (Nat.eq_of_beq_eq_true h3), _, hr, v, fun _ w1 hg => hv w1 _ _ _ _ a ha trivial w1 (G.refl _), (fun hn => by cases hn), hL ▸ h _ (ha.put h4 (fun _ => rfl) (fun hn => absurd trivial hn))⟩
open Classical in
theorem st_rdg {g t : Nat} {want b : Bool} {c0 : Prop} (r : Nat) (hr : ops.toArray[r]? = some ⟨some d, op, ty, pos, after, some (g, want)⟩) (hb : (L.contains r && availB ms L r && Nat.beq (clOf cl r) 0 && Nat.blt d n) = true) (hL : L.erase r = L')
    (hgd : ((ops.toArray[g]?).bind (·.dst)) = some t) (hlk : look σ t = some (c0, .bool b))
    (hv : ∀ w1, GX row w w1 → Rd P n σ (c0 ∧ b = want) w1 op ty v) (h : ST P Z ops cl ms row n K m L' ((d, c0 ∧ b = want, v) :: σ) w) : ST P Z ops cl ms row n K (m + 1) L σ w := fun a ha => by
  simp only [Bool.and_eq_true] at hb
  obtain ⟨⟨⟨h1, h2⟩, h3⟩, h4⟩ := hb
  have hw := want_of (op := op) (ty := ty) (pos := pos) (after := after) (want := want) (d := some d) hgd hlk ha
  refine .inl ⟨r, by simpa using h1, (avail_iff ms L r).1 h2, .inl (Nat.eq_of_beq_eq_true h3), _, hr, if c0 ∧ b = want then v else undef, fun hwt w1 hg => ?_, fun hn => ?_, hL ▸ h _ (ha.put h4 (fun hh => if_pos hh) (fun hh => if_neg hh))⟩
  · rcases hg with hg | hg
    · rw [Nat.eq_of_beq_eq_true h3] at hg; cases hg
    · rw [if_pos (hw.1 hwt)]
      exact hv w1 hg _ _ _ _ a ha (hw.1 hwt) w1 (G.refl _)
  · rw [if_neg (fun hh => by rw [hw.2 hh] at hn; cases hn)]
open Classical in
theorem st_pug {g t : Nat} {want b : Bool} {c0 : Prop} (r : Nat) (hr : ops.toArray[r]? = some ⟨some d, op, ty, pos, after, some (g, want)⟩) (hb : (L.contains r && availB ms L r && Nat.beq (clOf cl r) 3 && Nat.blt d n) = true) (hL : L.erase r = L')
    (hgd : ((ops.toArray[g]?).bind (·.dst)) = some t) (hlk : look σ t = some (c0, .bool b))
    (hv : ∀ wb, Rd P n σ (c0 ∧ b = want) wb op ty v) (h : ST P Z ops cl ms row n K m L' ((d, c0 ∧ b = want, v) :: σ) w) : ST P Z ops cl ms row n K (m + 1) L σ w := fun a ha => by
  simp only [Bool.and_eq_true] at hb
  obtain ⟨⟨⟨h1, h2⟩, h3⟩, h4⟩ := hb
  have hw := want_of (op := op) (ty := ty) (pos := pos) (after := after) (want := want) (d := some d) hgd hlk ha
  refine .inl ⟨r, by simpa using h1, (avail_iff ms L r).1 h2, .inr (Nat.eq_of_beq_eq_true h3), _, hr, if c0 ∧ b = want then v else undef, fun hwt w1 hg => ?_, fun hn => ?_, hL ▸ h _ (ha.put h4 (fun hh => if_pos hh) (fun hh => if_neg hh))⟩
  · rw [if_pos (hw.1 hwt)]
    exact hv w1 _ _ _ _ a ha (hw.1 hwt) w1 (G.refl _)
  · rw [if_neg (fun hh => by rw [hw.2 hh] at hn; cases hn)]
/-- One effect in its turn. -/
def STE (P : Program) (Z : List PanicEntry → Act → World → Prop) (ops : List Oper) (cl ms : List Nat) (row : Option Nat) (n : Nat) (K : Act → World → Prop) (m : Nat) (L : List Nat) (σ : List Ent) (w : World) (j : Nat) : Prop :=
  ∀ a, Kn n σ a → ∃ o, ops.toArray[j]? = some o ∧ if Region.wanted o (yielded ops.toArray a.tmps) = true then EffQ P Z row (clOf cl j == 1) o a w (fun a' w' => RT P Z ops.toArray (clOf cl) (wtOf ms) row K m (L.erase j) a' w')
    else RT P Z ops.toArray (clOf cl) (wtOf ms) row K m (L.erase j) (a.put o.dst undef) w
theorem st_eff (cs : List Nat) (hb : L.all (fun r => !(availB ms L r && isRdB cl r)) = true) (hc : candB cl ms L = cs) (h : ∀ j ∈ cs, STE P Z ops cl ms row n K m L σ w j) : ST P Z ops cl ms row n K (m + 1) L σ w := fun a ha => by
  refine .inr ⟨fun r hr hav hrd => ?_, fun j hj hav => ?_⟩
  · have := List.all_eq_true.1 hb r hr
    rw [(avail_iff ms L r).2 hav, (isRdB_iff cl r).2 hrd] at this; cases this
  · exact h j (by rw [← hc]; exact List.mem_filter.2 ⟨hj, (avail_iff ms L j).2 hav⟩) a ha
theorem st_eff1 (j : Nat) (hb : L.all (fun r => !(availB ms L r && isRdB cl r)) = true) (hc : candB cl ms L = [j]) (h : STE P Z ops cl ms row n K m L σ w j) : ST P Z ops cl ms row n K (m + 1) L σ w :=
  st_eff [j] hb hc fun i hi => by rw [List.mem_singleton.1 hi]; exact h
theorem st_eff2 (j k : Nat) (hb : L.all (fun r => !(availB ms L r && isRdB cl r)) = true) (hc : candB cl ms L = [j, k]) (h : STE P Z ops cl ms row n K m L σ w j) (h' : STE P Z ops cl ms row n K m L σ w k) : ST P Z ops cl ms row n K (m + 1) L σ w :=
  st_eff [j, k] hb hc fun i hi => by
    rcases List.mem_cons.1 hi with rfl | hi
    · exact h
    · rw [List.mem_singleton.1 hi]; exact h'
/-- Out of a step of the other engine. -/
theorem ste_of_sr {j : Nat} {o : Oper} (cl2 : List Nat) (ho : ops.toArray[j]? = some o) (hL : L.erase j = L') (hc : (Nat.beq (clOf cl2 j) 0 || Nat.beq (clOf cl2 j) 3) = false)
    (h : SR P Z ops cl2 [] w n (fun a' w' => GX row w w' ∧ RT P Z ops.toArray (clOf cl) (wtOf ms) row K m L' a' w') j [o] σ w) : STE P Z ops cl ms row n K m L σ w j := fun a ha => by
  subst hL
  have h1 := h (fun i o' h => by cases i with
    | zero => injection h with h; subst h; exact ho
    | succ i => cases h) a ha
  · have hc' : ¬ (clOf cl2 j = 0 ∨ clOf cl2 j = 3) := by
      intro e; rw [Bool.or_eq_false_iff] at hc
      rcases e with e | e <;> rw [e] at hc <;> simp at hc
    obtain ⟨o', ho', h2⟩ := h1
    obtain rfl : o' = o := Option.some.inj (ho'.symm.trans ho)
    rw [if_neg hc'] at h2
    refine ⟨o', ho, ?_⟩
    by_cases hw : Region.wanted o' (yielded ops.toArray a.tmps) = true
    · rw [if_pos hw] at h2 ⊢
      rcases h2 with ⟨v, w', hr, _, hn⟩ | ⟨w', hr, _, hn⟩ | ⟨f, args, hr, hcl⟩ | ⟨l, f, tmps, asg, body, hr, hcl⟩
      · exact .inl ⟨v, w', hr, fun _ => hn.1, hn.2⟩
      · exact .inr (.inl ⟨w', hr, fun _ => hn.1, hn.2⟩)
      · refine .inr (.inr (.inl ⟨f, args, hr, Calls.mono hcl fun e w' h => ?_⟩))
        rcases h with ⟨v, he, _, hn⟩ | h
        · exact .inl ⟨v, he, fun _ => hn.1, hn.2⟩
        · exact .inr h
      · exact .inr (.inr (.inr ⟨l, f, tmps, asg, body, hr, RoundIn.mono hcl fun e w' ⟨v, he, _, hn⟩ => ⟨v, he, fun _ => hn.1, hn.2⟩⟩))
    · rw [if_neg hw] at h2 ⊢
      exact h2.2
theorem ste2_of_sr {j : Nat} {o : Oper} (cl2 : List Nat) (ho : ops.toArray[j]? = some o) (hL : L.erase j = L') (hc : (Nat.beq (clOf cl2 j) 0 || Nat.beq (clOf cl2 j) 3) = false) (h1c : Nat.beq (clOf cl j) 1 = false)
    (h : SR P Z ops cl2 [] w n (fun a' w' => RT P Z ops.toArray (clOf cl) (wtOf ms) row K m L' a' w') j [o] σ w) : STE P Z ops cl ms row n K m L σ w j := fun a ha => by
  subst hL
  have h1 := h (fun i o' h => by cases i with
    | zero => injection h with h; subst h; exact ho
    | succ i => cases h) a ha
  have hc' : ¬ (clOf cl2 j = 0 ∨ clOf cl2 j = 3) := by
    intro e; rw [Bool.or_eq_false_iff] at hc
    rcases e with e | e <;> rw [e] at hc <;> simp at hc
  have h1c' : (clOf cl j == 1) = false := by
    cases h : (clOf cl j == 1) with
    | false => rfl
    | true => rw [eq_of_beq h] at h1c; cases h1c
  obtain ⟨o', ho', h2⟩ := h1
  obtain rfl : o' = o := Option.some.inj (ho'.symm.trans ho)
  rw [if_neg hc'] at h2
  refine ⟨o', ho, ?_⟩
  rw [h1c']
  by_cases hw : Region.wanted o' (yielded ops.toArray a.tmps) = true
  · rw [if_pos hw] at h2 ⊢
    rcases h2 with ⟨v, w', hr, _, hn⟩ | ⟨w', hr, _, hn⟩ | ⟨f, args, hr, hcl⟩ | ⟨l, f, tmps, asg, body, hr, hcl⟩
    · exact .inl ⟨v, w', hr, (fun h => by cases h), hn⟩
    · exact .inr (.inl ⟨w', hr, (fun h => by cases h), hn⟩)
    · refine .inr (.inr (.inl ⟨f, args, hr, Calls.mono hcl fun e w' h => ?_⟩))
      rcases h with ⟨v, he, _, hn⟩ | h
      · exact .inl ⟨v, he, (fun h => by cases h), hn⟩
      · exact .inr h
    · exact .inr (.inr (.inr ⟨l, f, tmps, asg, body, hr, RoundIn.mono hcl fun e w' ⟨v, he, _, hn⟩ => ⟨v, he, (fun h => by cases h), hn⟩⟩))
  · rw [if_neg hw] at h2 ⊢
    exact h2
theorem sr_nilT2 {cl2 : List Nat} {W0 : World} {k : Nat} (h : ST P Z ops cl ms row n K m L σ w) : SR P Z ops cl2 [] W0 n (fun a' w' => RT P Z ops.toArray (clOf cl) (wtOf ms) row K m L a' w') k [] σ w := sr_nil h
theorem sr_nilT {cl2 : List Nat} {W0 w0 : World} {k : Nat} (hg : GX row w0 w) (h : ST P Z ops cl ms row n K m L σ w) : SR P Z ops cl2 [] W0 n (fun a' w' => GX row w0 w' ∧ RT P Z ops.toArray (clOf cl) (wtOf ms) row K m L a' w') k [] σ w := sr_nil fun a ha => ⟨hg, h a ha⟩
end
section
variable {P : Program} {n : Nat} {N T : Act → World → Prop} {X : List (Nat × (Act → World → Prop))} {σ : List Ent} {w : World}
theorem sc_drawT {id : Nat} {l : List Oper} (row : Option Nat) (cl : List Nat) (ms : List Nat) (hm : P.follows .mixedOrders = true) (hok : okT l cl ms = true) (L : List Nat) (hL : List.range l.length = L)
    (h : ST P NoP l cl ms row n N l.length L σ w.drew) : SC P n (.region id l.toArray true) N X T σ w := fun a ha => by
  have h1 := h a ha
  subst hL
  have h2 : RT P NoP l.toArray (clOf cl) (wtOf ms) row (fun a w => (Qof N X T) .normal a w) l.toArray.size (List.range l.toArray.size) a w.drew := by simpa [Qof] using h1
  exact wp_drawT (okayT_of hok) hm h2
end
end Go.Rk
namespace Go.Rk
open Go Go.RowKit
set_option linter.unusedVariables false
def nestFs (P : Program) : Nat → List Field → Option (List (Option TypeId × List Nat))
  | _, [] => some []
  | k, f :: fs => if Nat.beq f.offset k && f.name != "_" then match flatKind P f.type with
      | some a => (nestFs P (k + 1) fs).map fun r => (none, [a]) :: r
      | none => match tyFlat P f.type, tyAgg P f.type with
        | some ks, some z => if Nat.beq z ks.length then (nestFs P (k + ks.length) fs).map fun r => (some f.type, ks) :: r else none
        | _, _ => none
    else none
def tyNest (P : Program) (t : TypeId) : Option (List (Option TypeId × List Nat)) := match P.underlying t with
  | some (.struct fs) => if P.stoodInHeld t = false ∧ P.eqGuardType P.depth t = false then nestFs P 0 fs.toList else none
  | _ => none
def eqN : List (Option TypeId × List Nat) → List Value → List Value → Option Bool
  | [], [], [] => some true
  | [], _, _ => none
  | (_, ks) :: r, l, l' => match eqL ks (l.take ks.length) (l'.take ks.length) with
    | some b => match eqN r (l.drop ks.length) (l'.drop ks.length) with
      | some c => some (b && c)
      | none => none
    | none => none
section
variable {P : Program} {n : Nat} {σ : List Ent} {c : Prop} {wb : World} {ty : TypeId} {v : Value}
end
end Go.Rk
namespace Go.Rk
open Go
@[reducible] noncomputable def PP : Program := Go.Proofs.Tryz.prog
theorem mix : PP.follows .mixedOrders = true := by kernel_rfl
@[reducible] def fn_l07_FoldFile : Nat := 3
theorem func_l07_FoldFile : PP.funcs[3]? = some Go.Proofs.Tryz.f3 := Go.Proofs.Tryz.func3
@[reducible] def fn_l07_FoldChecked : Nat := 4
@[reducible] def fn_l03_SyntaxPrint : Nat := 5
@[reducible] def fn_l03_SyntaxText : Nat := 6
@[reducible] def fn_l07_awake : Nat := 7
theorem go_l07_awake : goFn PP 7 = true := by kernel_rfl
theorem func_l07_awake : PP.funcs[7]? = some Go.Proofs.Tryz.f7 := Go.Proofs.Tryz.func7
@[reducible] def fn_r03_Count : Nat := 8
theorem go_r03_Count : goFn PP 8 = true := by kernel_rfl
theorem func_r03_Count : PP.funcs[8]? = some Go.Proofs.Tryz.f8 := Go.Proofs.Tryz.func8
@[reducible] def fn_r03_Copy : Nat := 9
theorem go_r03_Copy : goFn PP 9 = true := by kernel_rfl
theorem func_r03_Copy : PP.funcs[9]? = some Go.Proofs.Tryz.f9 := Go.Proofs.Tryz.func9
@[reducible] def fn_r03_Same : Nat := 10
theorem go_r03_Same : goFn PP 10 = true := by kernel_rfl
theorem func_r03_Same : PP.funcs[10]? = some Go.Proofs.Tryz.f10 := Go.Proofs.Tryz.func10
@[reducible] def fn_fold_File : Nat := 11
theorem go_fold_File : goFn PP 11 = true := by kernel_rfl
theorem func_fold_File : PP.funcs[11]? = some Go.Proofs.Tryz.f11 := Go.Proofs.Tryz.func11
@[reducible] def fn_r07_File : Nat := 12
theorem go_r07_File : goFn PP 12 = true := by kernel_rfl
theorem func_r07_File : PP.funcs[12]? = some Go.Proofs.Tryz.f12 := Go.Proofs.Tryz.func12
@[reducible] def fn_r06_Check : Nat := 13
@[reducible] def fn_l03_awake : Nat := 14
@[reducible] def fn_l03_great : Nat := 15
@[reducible] def fn_syntax_Print : Nat := 16
@[reducible] def fn_r03_Print : Nat := 17
@[reducible] def fn_r03_Valid : Nat := 18
theorem go_r03_Valid : goFn PP 18 = true := by kernel_rfl
theorem func_r03_Valid : PP.funcs[18]? = some Go.Proofs.Tryz.f18 := Go.Proofs.Tryz.func18
@[reducible] def fn_r02_Scan : Nat := 19
@[reducible] def fn_syntax_Equal : Nat := 20
@[reducible] def fn_fold_Value : Nat := 21
theorem go_fold_Value : goFn PP 21 = true := by kernel_rfl
theorem func_fold_Value : PP.funcs[21]? = some Go.Proofs.Tryz.f21 := Go.Proofs.Tryz.func21
@[reducible] def fn_l07_binary : Nat := 22
theorem go_l07_binary : goFn PP 22 = true := by kernel_rfl
theorem func_l07_binary : PP.funcs[22]? = some Go.Proofs.Tryz.f22 := Go.Proofs.Tryz.func22
@[reducible] def fn_l07_number : Nat := 23
theorem go_l07_number : goFn PP 23 = true := by kernel_rfl
theorem func_l07_number : PP.funcs[23]? = some Go.Proofs.Tryz.f23 := Go.Proofs.Tryz.func23
@[reducible] def fn_r03_Equal : Nat := 24
theorem go_r03_Equal : goFn PP 24 = true := by kernel_rfl
theorem func_r03_Equal : PP.funcs[24]? = some Go.Proofs.Tryz.f24 := Go.Proofs.Tryz.func24
@[reducible] def fn_l07_printed : Nat := 25
theorem go_l07_printed : goFn PP 25 = true := by kernel_rfl
theorem func_l07_printed : PP.funcs[25]? = some Go.Proofs.Tryz.f25 := Go.Proofs.Tryz.func25
@[reducible] def fn_l07_printing : Nat := 26
theorem go_l07_printing : goFn PP 26 = true := by kernel_rfl
theorem func_l07_printing : PP.funcs[26]? = some Go.Proofs.Tryz.f26 := Go.Proofs.Tryz.func26
@[reducible] def fn_syntax_Valid : Nat := 27
theorem go_syntax_Valid : goFn PP 27 = true := by kernel_rfl
theorem func_syntax_Valid : PP.funcs[27]? = some Go.Proofs.Tryz.f27 := Go.Proofs.Tryz.func27
@[reducible] def fn_fold_fold : Nat := 28
theorem go_fold_fold : goFn PP 28 = true := by kernel_rfl
theorem func_fold_fold : PP.funcs[28]? = some Go.Proofs.Tryz.f28 := Go.Proofs.Tryz.func28
@[reducible] def fn_r07_folded : Nat := 29
theorem go_r07_folded : goFn PP 29 = true := by kernel_rfl
theorem func_r07_folded : PP.funcs[29]? = some Go.Proofs.Tryz.f29 := Go.Proofs.Tryz.func29
@[reducible] def fn_r07_plain : Nat := 30
theorem go_r07_plain : goFn PP 30 = true := by kernel_rfl
theorem func_r07_plain : PP.funcs[30]? = some Go.Proofs.Tryz.f30 := Go.Proofs.Tryz.func30
@[reducible] def fn_r06_checker_fail : Nat := 31
@[reducible] def fn_r06_clean : Nat := 32
@[reducible] def fn_r06_bare : Nat := 33
@[reducible] def fn_r06_checker_structure : Nat := 34
@[reducible] def fn_r06_checker_pointer : Nat := 35
@[reducible] def fn_r06_checker_function : Nat := 36
@[reducible] def fn_r06_find : Nat := 37
@[reducible] def fn_l03_sample : Nat := 38
@[reducible] def fn_syntax_Walk : Nat := 39
@[reducible] def fn_syntax_Count : Nat := 40
@[reducible] def fn_syntax_Strip : Nat := 41
@[reducible] def fn_syntax_printer_stmt : Nat := 42
@[reducible] def fn_syntax_printer_write : Nat := 43
@[reducible] def fn_strings_Builder_String : Nat := 44
@[reducible] def fn_r03_declText : Nat := 45
@[reducible] def fn_r03_Depth : Nat := 46
theorem go_r03_Depth : goFn PP 46 = true := by kernel_rfl
theorem func_r03_Depth : PP.funcs[46]? = some Go.Proofs.Tryz.f46 := Go.Proofs.Tryz.func46
@[reducible] def fn_r03_isDecl : Nat := 47
theorem go_r03_isDecl : goFn PP 47 = true := by kernel_rfl
theorem func_r03_isDecl : PP.funcs[47]? = some Go.Proofs.Tryz.f47 := Go.Proofs.Tryz.func47
@[reducible] def fn_r02_All : Nat := 48
@[reducible] def fn_fold_value : Nat := 49
theorem go_fold_value : goFn PP 49 = true := by kernel_rfl
theorem func_fold_value : PP.funcs[49]? = some Go.Proofs.Tryz.f49 := Go.Proofs.Tryz.func49
@[reducible] def fn_r03_counts : Nat := 50
theorem go_r03_counts : goFn PP 50 = true := by kernel_rfl
theorem func_r03_counts : PP.funcs[50]? = some Go.Proofs.Tryz.f50 := Go.Proofs.Tryz.func50
@[reducible] def fn_syntax_permitted : Nat := 51
theorem go_syntax_permitted : goFn PP 51 = true := by kernel_rfl
theorem func_syntax_permitted : PP.funcs[51]? = some Go.Proofs.Tryz.f51 := Go.Proofs.Tryz.func51
@[reducible] def fn_fold_replace : Nat := 52
theorem go_fold_replace : goFn PP 52 = true := by kernel_rfl
theorem func_fold_replace : PP.funcs[52]? = some Go.Proofs.Tryz.f52 := Go.Proofs.Tryz.func52
@[reducible] def fn_fold_each_api_Node : Nat := 53
theorem go_fold_each_api_Node : goFn PP 53 = true := by kernel_rfl
theorem func_fold_each_api_Node : PP.funcs[53]? = some Go.Proofs.Tryz.f53 := Go.Proofs.Tryz.func53
@[reducible] def fn_r03_IsExpr : Nat := 54
theorem go_r03_IsExpr : goFn PP 54 = true := by kernel_rfl
theorem func_r03_IsExpr : PP.funcs[54]? = some Go.Proofs.Tryz.f54 := Go.Proofs.Tryz.func54
@[reducible] def fn_r07_constant : Nat := 55
theorem go_r07_constant : goFn PP 55 = true := by kernel_rfl
theorem func_r07_constant : PP.funcs[55]? = some Go.Proofs.Tryz.f55 := Go.Proofs.Tryz.func55
@[reducible] def fn_r07_replaced : Nat := 56
theorem go_r07_replaced : goFn PP 56 = true := by kernel_rfl
theorem func_r07_replaced : PP.funcs[56]? = some Go.Proofs.Tryz.f56 := Go.Proofs.Tryz.func56
@[reducible] def fn_r03_Strip : Nat := 57
theorem go_r03_Strip : goFn PP 57 = true := by kernel_rfl
theorem func_r03_Strip : PP.funcs[57]? = some Go.Proofs.Tryz.f57 := Go.Proofs.Tryz.func57
@[reducible] def fn_r05_Of : Nat := 58
@[reducible] def fn_r06_checker_declare : Nat := 59
@[reducible] def fn_r06_checker_local : Nat := 60
@[reducible] def fn_r06_checker_stmts : Nat := 61
@[reducible] def fn_r06_ends : Nat := 62
@[reducible] def fn_l03_name : Nat := 63
@[reducible] def fn_l03_typed : Nat := 64
@[reducible] def fn_syntax_Walk_1 : Nat := 65
@[reducible] def fn_syntax_Walk_1_1 : Nat := 66
@[reducible] def fn_syntax_printer_declaration : Nat := 67
@[reducible] def fn_syntax_printer_compound : Nat := 68
@[reducible] def fn_syntax_printer_simple : Nat := 69
@[reducible] def fn_strings_Builder_WriteString : Nat := 70
@[reducible] def fn_r03_varText : Nat := 71
@[reducible] def fn_r03_TypeText : Nat := 72
@[reducible] def fn_r03_block : Nat := 73
@[reducible] def fn_r02_Name : Nat := 74
theorem go_r02_Name : goFn PP 74 = true := by kernel_rfl
theorem func_r02_Name : PP.funcs[74]? = some Go.Proofs.Tryz.f74 := Go.Proofs.Tryz.func74
@[reducible] def fn_r03_fields : Nat := 75
theorem go_r03_fields : goFn PP 75 = true := by kernel_rfl
theorem func_r03_fields : PP.funcs[75]? = some Go.Proofs.Tryz.f75 := Go.Proofs.Tryz.func75
@[reducible] def fn_r03_isVar : Nat := 76
theorem go_r03_isVar : goFn PP 76 = true := by kernel_rfl
theorem func_r03_isVar : PP.funcs[76]? = some Go.Proofs.Tryz.f76 := Go.Proofs.Tryz.func76
@[reducible] def fn_r03_isNone : Nat := 77
theorem go_r03_isNone : goFn PP 77 = true := by kernel_rfl
theorem func_r03_isNone : PP.funcs[77]? = some Go.Proofs.Tryz.f77 := Go.Proofs.Tryz.func77
@[reducible] def fn_r03_IsType : Nat := 78
theorem go_r03_IsType : goFn PP 78 = true := by kernel_rfl
theorem func_r03_IsType : PP.funcs[78]? = some Go.Proofs.Tryz.f78 := Go.Proofs.Tryz.func78
@[reducible] def fn_r03_isBlock : Nat := 79
theorem go_r03_isBlock : goFn PP 79 = true := by kernel_rfl
theorem func_r03_isBlock : PP.funcs[79]? = some Go.Proofs.Tryz.f79 := Go.Proofs.Tryz.func79
@[reducible] def fn_r02_ends : Nat := 80
@[reducible] def fn_r02_next : Nat := 81
@[reducible] def fn_fold_binary : Nat := 82
theorem go_fold_binary : goFn PP 82 = true := by kernel_rfl
theorem func_fold_binary : PP.funcs[82]? = some Go.Proofs.Tryz.f82 := Go.Proofs.Tryz.func82
@[reducible] def fn_syntax_text : Nat := 83
theorem go_syntax_text : goFn PP 83 = true := by kernel_rfl
theorem func_syntax_text : PP.funcs[83]? = some Go.Proofs.Tryz.f83 := Go.Proofs.Tryz.func83
@[reducible] def fn_syntax_form : Nat := 84
theorem go_syntax_form : goFn PP 84 = true := by kernel_rfl
theorem func_syntax_form : PP.funcs[84]? = some Go.Proofs.Tryz.f84 := Go.Proofs.Tryz.func84
@[reducible] def fn_r03_expressions : Nat := 85
theorem go_r03_expressions : goFn PP 85 = true := by kernel_rfl
theorem func_r03_expressions : PP.funcs[85]? = some Go.Proofs.Tryz.f85 := Go.Proofs.Tryz.func85
@[reducible] def fn_r03_BinaryOp : Nat := 86
theorem go_r03_BinaryOp : goFn PP 86 = true := by kernel_rfl
theorem func_r03_BinaryOp : PP.funcs[86]? = some Go.Proofs.Tryz.f86 := Go.Proofs.Tryz.func86
@[reducible] def fn_r07_logic : Nat := 87
theorem go_r07_logic : goFn PP 87 = true := by kernel_rfl
theorem func_r07_logic : PP.funcs[87]? = some Go.Proofs.Tryz.f87 := Go.Proofs.Tryz.func87
@[reducible] def fn_r07_arithmetic : Nat := 88
theorem go_r07_arithmetic : goFn PP 88 = true := by kernel_rfl
theorem func_r07_arithmetic : PP.funcs[88]? = some Go.Proofs.Tryz.f88 := Go.Proofs.Tryz.func88
@[reducible] def fn_r05_Value : Nat := 89
@[reducible] def fn_r06_checker_stmt : Nat := 90
@[reducible] def fn_syntax_printer_lines : Nat := 91
@[reducible] def fn_syntax_printer_line : Nat := 92
@[reducible] def fn_syntax_printer_typ : Nat := 93
@[reducible] def fn_syntax_printer_block : Nat := 94
@[reducible] def fn_syntax_printer_expr : Nat := 95
@[reducible] def fn_syntax_printer_pair : Nat := 96
@[reducible] def fn_syntax_printer_list : Nat := 97
@[reducible] def fn_strings_Builder_copyCheck : Nat := 98
@[reducible] def fn_r03_expr : Nat := 99
@[reducible] def fn_r03_lines : Nat := 100
@[reducible] def fn_r03_tabs : Nat := 101
@[reducible] def fn_r02_letter : Nat := 102
theorem go_r02_letter : goFn PP 102 = true := by kernel_rfl
theorem func_r02_letter : PP.funcs[102]? = some Go.Proofs.Tryz.f102 := Go.Proofs.Tryz.func102
@[reducible] def fn_r02_Keyword : Nat := 103
theorem go_r02_Keyword : goFn PP 103 = true := by kernel_rfl
theorem func_r02_Keyword : PP.funcs[103]? = some Go.Proofs.Tryz.f103 := Go.Proofs.Tryz.func103
@[reducible] def fn_r02_digit : Nat := 104
theorem go_r02_digit : goFn PP 104 = true := by kernel_rfl
theorem func_r02_digit : PP.funcs[104]? = some Go.Proofs.Tryz.f104 := Go.Proofs.Tryz.func104
@[reducible] def fn_r03_typeName : Nat := 105
theorem go_r03_typeName : goFn PP 105 = true := by kernel_rfl
theorem func_r03_typeName : PP.funcs[105]? = some Go.Proofs.Tryz.f105 := Go.Proofs.Tryz.func105
@[reducible] def fn_r03_isStmt : Nat := 106
theorem go_r03_isStmt : goFn PP 106 = true := by kernel_rfl
theorem func_r03_isStmt : PP.funcs[106]? = some Go.Proofs.Tryz.f106 := Go.Proofs.Tryz.func106
@[reducible] def fn_r02_Integer : Nat := 107
@[reducible] def fn_r02_operator : Nat := 108
@[reducible] def fn_fold_truth : Nat := 109
theorem go_fold_truth : goFn PP 109 = true := by kernel_rfl
theorem func_fold_truth : PP.funcs[109]? = some Go.Proofs.Tryz.f109 := Go.Proofs.Tryz.func109
@[reducible] def fn_syntax_name : Nat := 110
theorem go_syntax_name : goFn PP 110 = true := by kernel_rfl
theorem func_syntax_name : PP.funcs[110]? = some Go.Proofs.Tryz.f110 := Go.Proofs.Tryz.func110
@[reducible] def fn_syntax_among : Nat := 111
theorem go_syntax_among : goFn PP 111 = true := by kernel_rfl
theorem func_syntax_among : PP.funcs[111]? = some Go.Proofs.Tryz.f111 := Go.Proofs.Tryz.func111
@[reducible] def fn_syntax_every : Nat := 112
theorem go_syntax_every : goFn PP 112 = true := by kernel_rfl
theorem func_syntax_every : PP.funcs[112]? = some Go.Proofs.Tryz.f112 := Go.Proofs.Tryz.func112
@[reducible] def fn_syntax_kids : Nat := 113
theorem go_syntax_kids : goFn PP 113 = true := by kernel_rfl
theorem func_syntax_kids : PP.funcs[113]? = some Go.Proofs.Tryz.f113 := Go.Proofs.Tryz.func113
@[reducible] def fn_syntax_typed : Nat := 114
theorem go_syntax_typed : goFn PP 114 = true := by kernel_rfl
theorem func_syntax_typed : PP.funcs[114]? = some Go.Proofs.Tryz.f114 := Go.Proofs.Tryz.func114
@[reducible] def fn_syntax_either : Nat := 115
theorem go_syntax_either : goFn PP 115 = true := by kernel_rfl
theorem func_syntax_either : PP.funcs[115]? = some Go.Proofs.Tryz.f115 := Go.Proofs.Tryz.func115
@[reducible] def fn_syntax_expression : Nat := 116
theorem go_syntax_expression : goFn PP 116 = true := by kernel_rfl
theorem func_syntax_expression : PP.funcs[116]? = some Go.Proofs.Tryz.f116 := Go.Proofs.Tryz.func116
@[reducible] def fn_syntax_statement : Nat := 117
theorem go_syntax_statement : goFn PP 117 = true := by kernel_rfl
theorem func_syntax_statement : PP.funcs[117]? = some Go.Proofs.Tryz.f117 := Go.Proofs.Tryz.func117
@[reducible] def fn_syntax_communication : Nat := 118
theorem go_syntax_communication : goFn PP 118 = true := by kernel_rfl
theorem func_syntax_communication : PP.funcs[118]? = some Go.Proofs.Tryz.f118 := Go.Proofs.Tryz.func118
@[reducible] def fn_r07_boolean : Nat := 119
theorem go_r07_boolean : goFn PP 119 = true := by kernel_rfl
theorem func_r07_boolean : PP.funcs[119]? = some Go.Proofs.Tryz.f119 := Go.Proofs.Tryz.func119
@[reducible] def fn_r05_Reference : Nat := 120
@[reducible] def fn_r06_checker_block : Nat := 121
@[reducible] def fn_r06_checker_ifStmt : Nat := 122
@[reducible] def fn_r06_checker_assign : Nat := 123
@[reducible] def fn_r06_checker_selectStmt : Nat := 124
@[reducible] def fn_r06_checker_expr : Nat := 125
@[reducible] def fn_r05_Assignable : Nat := 126
@[reducible] def fn_r06_checker_condition : Nat := 127
@[reducible] def fn_r06_checker_want : Nat := 128
@[reducible] def fn_strings_Builder_WriteByte : Nat := 129
@[reducible] def fn_syntax_printer_primary : Nat := 130
@[reducible] def fn_syntax_printer_inner : Nat := 131
@[reducible] def fn_strconv_Itoa : Nat := 132
@[reducible] def fn_strconv_FormatBool : Nat := 133
@[reducible] def fn_r03_Digits : Nat := 135
@[reducible] def fn_r03_base : Nat := 136
@[reducible] def fn_r03_operand : Nat := 137
@[reducible] def fn_r03_stmt : Nat := 138
@[reducible] def fn_r03_isIf : Nat := 139
theorem go_r03_isIf : goFn PP 139 = true := by kernel_rfl
theorem func_r03_isIf : PP.funcs[139]? = some Go.Proofs.Tryz.f139 := Go.Proofs.Tryz.func139
@[reducible] def fn_r03_isSelect : Nat := 140
theorem go_r03_isSelect : goFn PP 140 = true := by kernel_rfl
theorem func_r03_isSelect : PP.funcs[140]? = some Go.Proofs.Tryz.f140 := Go.Proofs.Tryz.func140
@[reducible] def fn_r03_kind : Nat := 141
theorem go_r03_kind : goFn PP 141 = true := by kernel_rfl
theorem func_r03_kind : PP.funcs[141]? = some Go.Proofs.Tryz.f141 := Go.Proofs.Tryz.func141
@[reducible] def fn_scan_Scan : Nat := 142
theorem go_scan_Scan : goFn PP 142 = true := by kernel_rfl
theorem func_scan_Scan : PP.funcs[142]? = some Go.Proofs.Tryz.f142 := Go.Proofs.Tryz.func142
@[reducible] def fn_syntax_among_1 : Nat := 143
theorem go_syntax_among_1 : goFn PP 143 = true := by kernel_rfl
theorem func_syntax_among_1 : PP.funcs[143]? = some Go.Proofs.Tryz.f143 := Go.Proofs.Tryz.func143
@[reducible] def fn_syntax_either_1 : Nat := 144
theorem go_syntax_either_1 : goFn PP 144 = true := by kernel_rfl
theorem func_syntax_either_1 : PP.funcs[144]? = some Go.Proofs.Tryz.f144 := Go.Proofs.Tryz.func144
@[reducible] def fn_r05_Valid : Nat := 145
@[reducible] def fn_r06_checker_open : Nat := 146
@[reducible] def fn_r06_checker_shut : Nat := 147
@[reducible] def fn_r06_checker_literal : Nat := 148
@[reducible] def fn_r06_checker_call : Nat := 149
@[reducible] def fn_r06_checker_lookup : Nat := 150
@[reducible] def fn_r06_checker_member : Nat := 151
@[reducible] def fn_r06_checker_operation : Nat := 152
@[reducible] def fn_r03_ifText : Nat := 155
@[reducible] def fn_r03_selectText : Nat := 156
@[reducible] def fn_r03_isComm : Nat := 157
theorem go_r03_isComm : goFn PP 157 = true := by kernel_rfl
theorem func_r03_isComm : PP.funcs[157]? = some Go.Proofs.Tryz.f157 := Go.Proofs.Tryz.func157
@[reducible] def fn_scan_all : Nat := 158
theorem go_scan_all : goFn PP 158 = true := by kernel_rfl
theorem func_scan_all : PP.funcs[158]? = some Go.Proofs.Tryz.f158 := Go.Proofs.Tryz.func158
@[reducible] def fn_r06_checker_callee : Nat := 159
@[reducible] def fn_r05_Fields : Nat := 160
@[reducible] def fn_r05_Binary : Nat := 161
@[reducible] def fn_scan_scanner_next : Nat := 163
theorem go_scan_scanner_next : goFn PP 163 = true := by kernel_rfl
theorem func_scan_scanner_next : PP.funcs[163]? = some Go.Proofs.Tryz.f163 := Go.Proofs.Tryz.func163
@[reducible] def fn_r06_checker_receiver : Nat := 164
@[reducible] def fn_r05_Method : Nat := 165
@[reducible] def fn_r05_Comparable : Nat := 166
@[reducible] def fn_scan_scanner_newline : Nat := 171
theorem go_scan_scanner_newline : goFn PP 171 = true := by kernel_rfl
theorem func_scan_scanner_newline : PP.funcs[171]? = some Go.Proofs.Tryz.f171 := Go.Proofs.Tryz.func171
@[reducible] def fn_strings_HasPrefix : Nat := 172
theorem go_strings_HasPrefix : goFn PP 172 = true := by kernel_rfl
theorem func_strings_HasPrefix : PP.funcs[172]? = some Go.Proofs.Tryz.f172 := Go.Proofs.Tryz.func172
@[reducible] def fn_scan_scanner_run : Nat := 173
theorem go_scan_scanner_run : goFn PP 173 = true := by kernel_rfl
theorem func_scan_scanner_run : PP.funcs[173]? = some Go.Proofs.Tryz.f173 := Go.Proofs.Tryz.func173
@[reducible] def fn_scan_scanner_next_1 : Nat := 174
theorem go_scan_scanner_next_1 : goFn PP 174 = true := by kernel_rfl
theorem func_scan_scanner_next_1 : PP.funcs[174]? = some Go.Proofs.Tryz.f174 := Go.Proofs.Tryz.func174
@[reducible] def fn_scan_letter : Nat := 175
theorem go_scan_letter : goFn PP 175 = true := by kernel_rfl
theorem func_scan_letter : PP.funcs[175]? = some Go.Proofs.Tryz.f175 := Go.Proofs.Tryz.func175
@[reducible] def fn_scan_scanner_next_2 : Nat := 176
theorem go_scan_scanner_next_2 : goFn PP 176 = true := by kernel_rfl
theorem func_scan_scanner_next_2 : PP.funcs[176]? = some Go.Proofs.Tryz.f176 := Go.Proofs.Tryz.func176
@[reducible] def fn_scan_digit : Nat := 177
theorem go_scan_digit : goFn PP 177 = true := by kernel_rfl
theorem func_scan_digit : PP.funcs[177]? = some Go.Proofs.Tryz.f177 := Go.Proofs.Tryz.func177
@[reducible] def fn_scan_Keyword : Nat := 178
theorem go_scan_Keyword : goFn PP 178 = true := by kernel_rfl
theorem func_scan_Keyword : PP.funcs[178]? = some Go.Proofs.Tryz.f178 := Go.Proofs.Tryz.func178
@[reducible] def fn_scan_scanner_put : Nat := 179
theorem go_scan_scanner_put : goFn PP 179 = true := by kernel_rfl
theorem func_scan_scanner_put : PP.funcs[179]? = some Go.Proofs.Tryz.f179 := Go.Proofs.Tryz.func179
@[reducible] def fn_strconv_ParseInt : Nat := 180
theorem go_strconv_ParseInt : goFn PP 180 = true := by kernel_rfl
@[reducible] def fn_scan_ending : Nat := 186
theorem go_scan_ending : goFn PP 186 = true := by kernel_rfl
theorem func_scan_ending : PP.funcs[186]? = some Go.Proofs.Tryz.f186 := Go.Proofs.Tryz.func186
@[reducible] def fn_internal_stringslite_HasPrefix : Nat := 187
theorem go_internal_stringslite_HasPrefix : goFn PP 187 = true := by kernel_rfl
theorem func_internal_stringslite_HasPrefix : PP.funcs[187]? = some Go.Proofs.Tryz.f187 := Go.Proofs.Tryz.func187
@[reducible] def fn_strconv_toError : Nat := 189
@[reducible] def fn_strconv_syntaxError : Nat := 193
@[reducible] def fn_strconv_rangeError : Nat := 194
@[reducible] def fn_strconv_baseError : Nat := 195
@[reducible] def fn_strconv_bitSizeError : Nat := 196
@[reducible] def fn_internal_stringslite_Clone : Nat := 199
@[reducible] def ty_int64 : Nat := 2
@[reducible] def ty_int : Nat := 3
theorem sz_int : tySize PP 3 = some 1 := by kernel_rfl
theorem ze_int : zeroOf PP 3 = some (.int .i64 0) := by kernel_rfl
theorem one_int : tyOne PP 3 = true := by kernel_rfl
@[reducible] def ty_bool : Nat := 4
theorem one_bool : tyOne PP 4 = true := by kernel_rfl
theorem und_bool : PP.underlying 4 = some .bool := by kernel_rfl
@[reducible] def ty_uint8 : Nat := 5
@[reducible] def ty_string : Nat := 9
theorem one_string : tyOne PP 9 = true := by kernel_rfl
theorem str_string : tyStr PP 9 = true := by kernel_rfl
@[reducible] def ty_sl_api_Node : Nat := 22
theorem sz_sl_api_Node : tySize PP 22 = some 1 := by kernel_rfl
theorem one_sl_api_Node : tyOne PP 22 = true := by kernel_rfl
theorem el_sl_api_Node : tyElem PP 22 = some (26, 9, 104) := by kernel_rfl
@[reducible] def ty_api_Type : Nat := 24
theorem agg_api_Type : tyAgg PP 24 = some 2 := by kernel_rfl
theorem fl_api_Type : tyFlat PP 24 = some [0, 1] := by kernel_rfl
@[reducible] def ty_api_Node : Nat := 26
theorem sz_api_Node : tySize PP 26 = some 9 := by kernel_rfl
theorem ze_api_Node : zeroOf PP 26 = some (.agg #[.int .i64 0, .string ⟨#[]⟩, .int .i64 0, .int .i64 0, .slice none 0 0, .int .i64 0, .string ⟨#[]⟩, .int .i64 0, .int .i64 0]) := by kernel_rfl
theorem agg_api_Node : tyAgg PP 26 = some 9 := by kernel_rfl
theorem fo_api_Node_0 : fieldOff PP 26 0 = some 0 := by kernel_rfl
theorem fo_api_Node_1 : fieldOff PP 26 1 = some 1 := by kernel_rfl
theorem fo_api_Node_2 : fieldOff PP 26 2 = some 2 := by kernel_rfl
theorem fo_api_Node_3 : fieldOff PP 26 3 = some 3 := by kernel_rfl
theorem fo_api_Node_4 : fieldOff PP 26 4 = some 4 := by kernel_rfl
theorem fo_api_Node_5 : fieldOff PP 26 5 = some 5 := by kernel_rfl
theorem fo_api_Node_6 : fieldOff PP 26 6 = some 7 := by kernel_rfl
theorem fo_api_Node_7 : fieldOff PP 26 7 = some 8 := by kernel_rfl
theorem pl_api_Node : structPlaces PP 26 = some [(0, 1), (1, 1), (2, 1), (3, 1), (4, 1), (5, 2), (7, 1), (8, 1)] := by kernel_rfl
@[reducible] def ty_func_api_Node_api_Node : Nat := 29
@[reducible] def ty_func_api_Node_bool : Nat := 31
@[reducible] def ty_api_Errno : Nat := 32
@[reducible] def ty_sl_api_Token : Nat := 36
theorem sz_sl_api_Token : tySize PP 36 = some 1 := by kernel_rfl
theorem one_sl_api_Token : tyOne PP 36 = true := by kernel_rfl
theorem el_sl_api_Token : tyElem PP 36 = some (94, 3, 32) := by kernel_rfl
@[reducible] def ty_p_interleaveref06_checker : Nat := 43
@[reducible] def ty_sl_interleaveref06_variable : Nat := 44
@[reducible] def ty_sl_int : Nat := 45
theorem one_sl_int : tyOne PP 45 = true := by kernel_rfl
theorem el_sl_int : tyElem PP 45 = some (3, 1, 8) := by kernel_rfl
@[reducible] def ty_interleaveref06_checker : Nat := 47
@[reducible] def ty_func_func_api_Node_bool : Nat := 53
@[reducible] def ty_iter_Seq_interleave_api_Node : Nat := 54
@[reducible] def ty_p_strings_Builder : Nat := 56
@[reducible] def ty_sl_uint8 : Nat := 57
@[reducible] def ty_strings_Builder : Nat := 59
@[reducible] def ty_syntax_printer : Nat := 61
@[reducible] def ty_fold_constant : Nat := 67
theorem sz_fold_constant : tySize PP 67 = some 2 := by kernel_rfl
theorem ze_fold_constant : zeroOf PP 67 = some (.agg #[.bool false, .int .i64 0]) := by kernel_rfl
theorem agg_fold_constant : tyAgg PP 67 = some 2 := by kernel_rfl
theorem fo_fold_constant_0 : fieldOff PP 67 0 = some 0 := by kernel_rfl
theorem fo_fold_constant_1 : fieldOff PP 67 1 = some 1 := by kernel_rfl
theorem pl_fold_constant : structPlaces PP 67 = some [(0, 1), (1, 1)] := by kernel_rfl
@[reducible] def ty_p_syntax_printer : Nat := 83
@[reducible] def ty_sl_string : Nat := 84
@[reducible] def ty_error : Nat := 86
theorem if_error : PP.isIface 86 = true := by kernel_rfl
@[reducible] def ty_p_uint8 : Nat := 89
@[reducible] def ty_api_Token : Nat := 94
theorem sz_api_Token : tySize PP 94 = some 3 := by kernel_rfl
theorem ze_api_Token : zeroOf PP 94 = some (.agg #[.int .i64 0, .string ⟨#[]⟩, .int .i64 0]) := by kernel_rfl
theorem agg_api_Token : tyAgg PP 94 = some 3 := by kernel_rfl
theorem fo_api_Token_0 : fieldOff PP 94 0 = some 0 := by kernel_rfl
theorem fo_api_Token_1 : fieldOff PP 94 1 = some 1 := by kernel_rfl
theorem pl_api_Token : structPlaces PP 94 = some [(0, 1), (1, 1), (2, 1)] := by kernel_rfl
@[reducible] def ty_interleaveref06_variable : Nat := 101
@[reducible] def ty_func_uint8_bool : Nat := 107
@[reducible] def ty_func_int_bool : Nat := 111
theorem sz_func_int_bool : tySize PP 111 = some 1 := by kernel_rfl
theorem ze_func_int_bool : zeroOf PP 111 = some (.nilFunc) := by kernel_rfl
theorem one_func_int_bool : tyOne PP 111 = true := by kernel_rfl
@[reducible] def ty_unsafe_Pointer : Nat := 122
@[reducible] def ty_uint64 : Nat := 124
@[reducible] def ty_sl_func_int_bool : Nat := 125
theorem el_sl_func_int_bool : tyElem PP 125 = some (111, 1, 8) := by kernel_rfl
@[reducible] def ty_p_scan_scanner : Nat := 127
@[reducible] def ty_scan_scanner : Nat := 131
theorem ze_scan_scanner : zeroOf PP 131 = some (.agg #[.string ⟨#[]⟩, .int .i64 0, .slice none 0 0, .slice none 0 0]) := by kernel_rfl
theorem fo_scan_scanner_0 : fieldOff PP 131 0 = some 0 := by kernel_rfl
theorem fo_scan_scanner_1 : fieldOff PP 131 1 = some 1 := by kernel_rfl
theorem fo_scan_scanner_2 : fieldOff PP 131 2 = some 2 := by kernel_rfl
theorem fo_scan_scanner_3 : fieldOff PP 131 3 = some 3 := by kernel_rfl
theorem pl_scan_scanner : structPlaces PP 131 = some [(0, 1), (1, 1), (2, 1), (3, 1)] := by kernel_rfl
@[reducible] def ty_sl_api_Type : Nat := 132
@[reducible] def ty_sl_api_Field : Nat := 135
@[reducible] def ty_api_Field : Nat := 139
@[reducible] def ty_27_string : Nat := 155
theorem agg_27_string : tyAgg PP 155 = some 27 := by kernel_rfl
theorem ar_27_string : tyArr1 PP 155 = some 27 := by kernel_rfl
@[reducible] def ty_strconv_Error : Nat := 164
@[reducible] def ty_p_strconv_NumError : Nat := 167
@[reducible] def ty_strconv_NumError : Nat := 174
end Go.Rk
