/- Structs that hold structs, compared. Conditions: none. -/
import Derived.Test.YtheifopckahdiaaDoorEngT
import Derived.Test.YtheifopckahdiaaDoorMore
namespace Go.Rk
open Go Go.RowKit
set_option linter.unusedVariables false
def nestFs (P : Program) : Nat → List Field → Option (List (Option TypeId × List Nat))
  | _, [] => some []
  | k, f :: fs => if Nat.beq f.offset k && f.name != "_" then match flatKind P f.type with
      | some a => (nestFs P (k + 1) fs).map fun r => (none, [a]) :: r
      | none => match tyFlat P f.type, tyAgg P f.type with
        | some ks, some z => if Nat.beq z ks.length then (nestFs P (k + ks.length) fs).map fun r => (some f.type, ks) :: r else none
        | _, _ => none
    else none
def tyNest (P : Program) (t : TypeId) : Option (List (Option TypeId × List Nat)) := match P.underlying t with
  | some (.struct fs) => if P.stoodInHeld t = false ∧ P.eqGuardType P.depth t = false then nestFs P 0 fs.toList else none
  | _ => none
def eqN : List (Option TypeId × List Nat) → List Value → List Value → Option Bool
  | [], [], [] => some true
  | [], _, _ => none
  | (_, ks) :: r, l, l' => match eqL ks (l.take ks.length) (l'.take ks.length) with
    | some b => match eqN r (l.drop ks.length) (l'.drop ks.length) with
      | some c => some (b && c)
      | none => none
    | none => none
theorem eqL_len : ∀ {ks : List Nat} {l l' : List Value} {b : Bool}, eqL ks l l' = some b → l.length = ks.length ∧ l'.length = ks.length
  | [], l, l', b, h => by
    unfold eqL at h; split at h <;> simp_all
  | k :: ks, l, l', b, h => by
    obtain ⟨u, u', r, r', b1, b2, rfl, rfl, _, e2, _⟩ := eqL_cons h
    have := eqL_len e2
    simp [this.1, this.2]
theorem part_agg {P : Program} {t : TypeId} {z : Nat} (ht : tyAgg P t = some z) {cs : Array Value} {o : Nat} (w : World) : (part t cs o).run P w = .ok (.agg (cs.extract o (o + z))) w := by
  have : (isAgg t).run P w = .ok true w ∧ (sizeOf t).run P w = .ok z w := by
    unfold tyAgg at ht
    split at ht
    · rename_i fs i hs hi
      injection ht with ht
      constructor
      · simp only [isAgg, Sem.run_bind, run_underlying hs, Result.andThen_ok]; rfl
      · simp [sizeOf, typeInfo, hi, ht]
    · rename_i fs m i hs hi
      injection ht with ht
      constructor
      · simp only [isAgg, Sem.run_bind, run_underlying hs, Result.andThen_ok]; rfl
      · simp [sizeOf, typeInfo, hi, ht]
    · cases ht
  simp [part, this.1, this.2]
theorem ext_take (pre l : List Value) (n : Nat) : ((pre ++ l).toArray.extract pre.length (pre.length + n)) = (l.take n).toArray := by
  simp [List.take_add]
theorem nest_cell {P : Program} {t : TypeId} {ks : List Nat} (ht : tyFlat P t = some ks) {l l' : List Value} {b : Bool} (he : eqL ks l l' = some b) (d : Nat) (w : World) : (Op.equalIn (d + 2) t (.agg l.toArray) (.agg l'.toArray)).run P w = .ok b w := by
  unfold tyFlat at ht
  split at ht
  · rename_i fs hfs
    split at ht
    · rename_i hk
      have hfo : P.fieldsOf t = fs := by simp [Program.fieldsOf, hfs]
      have k2 := run_equalIn_struct w (d + 1) t l.toArray l'.toArray (by rw [hfo]; exact hfs) hk.1
      have k3 := flat_run d fs.toList ks 0 l l' [] [] b ht rfl rfl he w
      simp only [List.nil_append] at k3
      rw [hfo, k3] at k2
      exact k2
    · cases ht
  · cases ht
theorem nest_run {P : Program} (d : Nat) : ∀ (fs : List Field) (ks : List (Option TypeId × List Nat)) (k : Nat) (l l' : List Value) (pre pre' : List Value) (b : Bool), nestFs P k fs = some ks → pre.length = k → pre'.length = k → eqN ks l l' = some b →
    ∀ w, (Op.eqFields (d + 2) (pre ++ l).toArray (pre' ++ l').toArray fs).run P w = .ok b w
  | [], ks, k, l, l', pre, pre', b, hf, h1, h2, he, w => by
    injection hf with hf; subst hf
    unfold eqN at he
    split at he <;> simp_all [Op.eqFields]
  | f :: fs, ks, k, l, l', pre, pre', b, hf, h1, h2, he, w => by
    unfold nestFs at hf
    split at hf
    · rename_i hc
      simp only [Bool.and_eq_true, bne_iff_ne, ne_eq] at hc
      have hc := And.intro (Nat.eq_of_beq_eq_true hc.1) hc.2
      split at hf
      · rename_i a ha
        obtain ⟨r, hr, rfl⟩ := Option.map_eq_some_iff.1 hf
        unfold eqN at he
        split at he
        · rename_i b1 e1
          split at he
          · rename_i b2 e2
            injection he with he; subst he
            have hl := eqL_len e1
            simp only [List.length_cons, List.length_nil, Nat.zero_add] at e1 e2 hl
            match l, l', hl with
            | u :: l, u' :: l', _ =>
              simp only [List.take_succ_cons, List.take_zero, List.drop_succ_cons, List.drop_zero] at e1 e2
              have ho := flat_one ha
              have g1 : (pre ++ u :: l).toArray[f.offset]? = some u := by simp [hc.1, ← h1]
              have g2 : (pre' ++ u' :: l').toArray[f.offset]? = some u' := by simp [hc.1, ← h2]
              have ih := nest_run d fs r (k + 1) l l' (pre ++ [u]) (pre' ++ [u']) b2 hr (by simp [h1]) (by simp [h2]) e2 w
              rw [List.append_assoc, List.append_assoc, List.singleton_append, List.singleton_append] at ih
              simp only [Op.eqFields, if_pos hc.2, Sem.run_bind, part_one ho g1, part_one ho g2, Result.andThen_ok, flat_cell (d := d + 1) ha e1]
              cases b1
              · simp
              · simpa using ih
          · cases he
        · cases he
      · split at hf
        · rename_i qs z hq hz
          split at hf
          · rename_i hzl
            have hzl := Nat.eq_of_beq_eq_true hzl
            obtain ⟨r, hr, rfl⟩ := Option.map_eq_some_iff.1 hf
            unfold eqN at he
            split at he
            · rename_i b1 e1
              split at he
              · rename_i b2 e2
                injection he with he; subst he
                have hl := eqL_len e1
                have ih := nest_run d fs r (k + qs.length) (l.drop qs.length) (l'.drop qs.length) (pre ++ l.take qs.length) (pre' ++ l'.take qs.length) b2 hr (by rw [List.length_append, h1, hl.1]) (by rw [List.length_append, h2, hl.2]) e2 w
                rw [List.append_assoc, List.append_assoc, List.take_append_drop, List.take_append_drop] at ih
                have q1 : (pre ++ l).toArray.extract f.offset (f.offset + z) = (l.take qs.length).toArray := by rw [hc.1, hzl, ← h1]; exact ext_take pre l _
                have q2 : (pre' ++ l').toArray.extract f.offset (f.offset + z) = (l'.take qs.length).toArray := by rw [hc.1, hzl, ← h2]; exact ext_take pre' l' _
                simp only [Op.eqFields, if_pos hc.2, Sem.run_bind, part_agg hz, q1, q2, Result.andThen_ok, nest_cell hq e1 d w]
                cases b1
                · simp
                · simpa using ih
              · cases he
            · cases he
          · cases hf
        · cases hf
    · cases hf
section
variable {P : Program} {n : Nat} {σ : List Ent} {c : Prop} {wb : World} {ty : TypeId} {v : Value}
theorem rd_nseq {t u : TypeId} {x y : Operand} {ks : List (Option TypeId × List Nat)} {l l' : List Value} {b : Bool} (ht : tyNest P t = some ks) (h : Ev n σ c x (.agg l.toArray)) (h' : Ev n σ c y (.agg l'.toArray)) (he : eqN ks l l' = some b) : Rd P n σ c wb (.binOp .eql t x y u) ty (.bool b) := fun d pos after gd a ha hc w1 _ => by
  unfold tyNest at ht
  split at ht
  · rename_i fs hfs
    split at ht
    · rename_i hk
      have hfo : P.fieldsOf t = fs := by simp [Program.fieldsOf, hfs]
      have k2 := run_equalIn_struct w1 9999 t l.toArray l'.toArray (by rw [hfo]; exact hfs) hk.1
      have k3 := nest_run 9997 fs.toList ks 0 l l' [] [] b ht rfl rfl he w1
      simp only [List.nil_append] at k3
      rw [hfo, k3] at k2
      simp [execOp, h a ha hc, h' a ha hc, run_eqGuard_agg w1 .eql t x y l.toArray l'.toArray hk.2, run_eql_struct, k2]
    · cases ht
  · cases ht
theorem rd_nsne {t u : TypeId} {x y : Operand} {ks : List (Option TypeId × List Nat)} {l l' : List Value} {b : Bool} (ht : tyNest P t = some ks) (h : Ev n σ c x (.agg l.toArray)) (h' : Ev n σ c y (.agg l'.toArray)) (he : eqN ks l l' = some b) : Rd P n σ c wb (.binOp .neq t x y u) ty (.bool (!b)) := fun d pos after gd a ha hc w1 _ => by
  unfold tyNest at ht
  split at ht
  · rename_i fs hfs
    split at ht
    · rename_i hk
      have hfo : P.fieldsOf t = fs := by simp [Program.fieldsOf, hfs]
      have k2 := run_equalIn_struct w1 9999 t l.toArray l'.toArray (by rw [hfo]; exact hfs) hk.1
      have k3 := nest_run 9997 fs.toList ks 0 l l' [] [] b ht rfl rfl he w1
      simp only [List.nil_append] at k3
      rw [hfo, k3] at k2
      simp [execOp, h a ha hc, h' a ha hc, run_eqGuard_agg w1 .neq t x y l.toArray l'.toArray hk.2, run_neq_struct, k2]
    · cases ht
  · cases ht
end
end Go.Rk
