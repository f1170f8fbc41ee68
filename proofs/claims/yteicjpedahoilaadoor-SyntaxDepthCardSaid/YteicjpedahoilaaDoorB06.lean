/- Merged texts of one road: SynE, SynF, SynG, SynH, Max, SynI, SynJ, Stp, Rtd, Sme, EngD, EngR, Rng2. Conditions: each text's own. -/
import Derived.Test.YteicjpedahoilaaDoorB05
import Derived.Test.YteicjpedahoilaaDoorB01
import Derived.Test.YteicjpedahoilaaDoorB04
import Derived.Test.YteicjpedahoilaaDoorB02
import Derived.RangeFuncOwn
set_option linter.unusedSimpArgs false
set_option linter.unusedVariables false
namespace Go.Rk
open Go Go.RowKit
def exprB (t : Nd) : Bool := expK t.kind && permF t
def blockB (t : Nd) : Bool := decide (t.kind = 10) && permF t
def stmtB (t : Nd) : Bool := stK t.kind && permF t
def ifB (t : Nd) : Bool := decide (t.kind = 18) && permF t
def varB (t : Nd) : Bool := decide (t.kind = 6) && permF t
def commF (t : Nd) : Bool := commB t && permF t
def plainB (t : Nd) : Bool := decide (t.text = [])
def noneB (t : Nd) : Bool := (decide (t.kind = 9) && decide (t.text = [])) && lenK t 0
def kindB (t : Nd) (k : Int) : Bool := decide (t.kind = k) && exprB t
theorem len_two {α : Type} {l : List α} (h : l.length = 2) : ∃ a b, l = [a, b] := by
  match l, h with | [a, b], _ => exact ⟨a, b, rfl⟩
theorem len_three {α : Type} {l : List α} (h : l.length = 3) : ∃ a b c, l = [a, b, c] := by
  match l, h with | [a, b, c], _ => exact ⟨a, b, c, rfl⟩
theorem memK_one (a k : Int) : memK [a] k = decide (k = a) := by simp [memK]
theorem lenK_f {t : Nd} (n : Nat) (h : t.kids.length ≠ n) : lenK t (n : Int) = false := by rw [lenK, decide_eq_false]; omega
theorem kidsB_f {t : Nd} {qs : List (Int → Bool)} (h : t.kids.length ≠ qs.length) : kidsB t qs = false := by rw [kidsB, decide_eq_false h, Bool.false_and]
theorem kids_0 {t : Nd} {f : Nd → Bool} : (lenK t 0 && t.kids.all f) = lenK t 0 := by
  by_cases h : t.kids.length = 0
  · rw [List.length_eq_zero_iff.1 h, List.all_nil, Bool.and_true]
  · rw [show lenK t 0 = false from lenK_f 0 h]; rfl
theorem kids_1 {t : Nd} {q : Int → Bool} : (kidsB t [q] && t.kids.all permF) = (lenK t 1 && (q (kidAt t 0).kind && permF (kidAt t 0))) := by
  by_cases h : t.kids.length = 1
  · obtain ⟨a, ha⟩ := List.length_eq_one_iff.1 h
    simp [lenK, kidsB, kidAt, ha, List.range_succ]
  · rw [show lenK t 1 = false from lenK_f 1 h, kidsB_f h]; rfl
theorem kids_2 {t : Nd} {q q2 : Int → Bool} : (kidsB t [q, q2] && t.kids.all permF) = (lenK t 2 && ((q (kidAt t 0).kind && permF (kidAt t 0)) && (q2 (kidAt t 1).kind && permF (kidAt t 1)))) := by
  by_cases h : t.kids.length = 2
  · obtain ⟨a, b, ha⟩ := len_two h
    simp [lenK, kidsB, kidAt, ha, List.range_succ]; ac_rfl
  · rw [show lenK t 2 = false from lenK_f 2 h, kidsB_f h]; rfl
theorem kids_3 {t : Nd} {q q2 q3 : Int → Bool} : (kidsB t [q, q2, q3] && t.kids.all permF) = (lenK t 3 && (((q (kidAt t 0).kind && permF (kidAt t 0)) && (q2 (kidAt t 1).kind && permF (kidAt t 1))) && (q3 (kidAt t 2).kind && permF (kidAt t 2)))) := by
  by_cases h : t.kids.length = 3
  · obtain ⟨a, b, c, ha⟩ := len_three h
    simp [lenK, kidsB, kidAt, ha, List.range_succ]; ac_rfl
  · rw [show lenK t 3 = false from lenK_f 3 h, kidsB_f h]; rfl
theorem all_1 {t : Nd} {f : Nd → Bool} : (lenK t 1 && t.kids.all f) = (lenK t 1 && f (kidAt t 0)) := by
  by_cases h : t.kids.length = 1
  · obtain ⟨a, ha⟩ := List.length_eq_one_iff.1 h
    simp [lenK, kidAt, ha]
  · rw [show lenK t 1 = false from lenK_f 1 h]; rfl
theorem all_2 {t : Nd} {f : Nd → Bool} : (lenK t 2 && t.kids.all f) = (lenK t 2 && (f (kidAt t 0) && f (kidAt t 1))) := by
  by_cases h : t.kids.length = 2
  · obtain ⟨a, b, ha⟩ := len_two h
    simp [lenK, kidAt, ha]
  · rw [show lenK t 2 = false from lenK_f 2 h]; rfl
theorem every_all {t : Nd} {q : Int → Bool} : (everyB t q && t.kids.all permF) = t.kids.all fun k => q k.kind && permF k := by
  rw [everyB, Bool.eq_iff_iff]
  simp only [Bool.and_eq_true, List.all_eq_true]
  exact ⟨fun h k hk => ⟨h.1 k hk, h.2 k hk⟩, fun h => ⟨fun k hk => (h k hk).1, fun k hk => (h k hk).2⟩⟩
theorem exp_all {t : Nd} : (everyB t expK && t.kids.all permF) = t.kids.all exprB := every_all
def refExpr (t : Nd) : Bool :=
  bif decide (t.kind = 24) then (plainB t && lenK t 0) && decide (0 ≤ t.num)
  else bif decide (t.kind = 25) then (plainB t && lenK t 0) && (decide (t.num = 0) || decide (t.num = 1))
  else bif decide (t.kind = 26) then plainB t && lenK t 0
  else bif anyK [27, 34] t.kind then nameB t.text && lenK t 0
  else bif decide (t.kind = 28) then (nameB t.text && lenK t 1) && exprB (kidAt t 0)
  else bif decide (t.kind = 29) then (plainB t && lenK t 2) && t.kids.all exprB
  else bif decide (t.kind = 30) then (plainB t && decide (1 ≤ (t.kids.length : Int))) && t.kids.all exprB
  else bif decide (t.kind = 31) then ((decide (t.text = [45]) || decide (t.text = [33])) && lenK t 1) && exprB (kidAt t 0)
  else bif decide (t.kind = 32) then (anyS binOps t.text && lenK t 2) && t.kids.all exprB
  else bif anyK [33, 35, 36, 37] t.kind then (plainB t && lenK t 1) && exprB (kidAt t 0)
  else bif decide (t.kind = 38) then (plainB t && lenK t 1) && blockB (kidAt t 0)
  else false
theorem fl0 {t : Nd} {X : Bool} : (X && lenK t 0) = ((X && lenK t 0) && t.kids.all permF) := by rw [Bool.and_assoc, kids_0]
theorem fl0' {t : Nd} {X Y : Bool} : ((X && lenK t 0) && Y) = ((X && (lenK t 0 && Y)) && t.kids.all permF) := by
  rw [show ((X && (lenK t 0 && Y)) && t.kids.all permF) = ((X && Y) && (lenK t 0 && t.kids.all permF)) by simp only [Bool.and_assoc, Bool.and_comm, Bool.and_left_comm], kids_0]
  simp only [Bool.and_assoc, Bool.and_comm, Bool.and_left_comm]
theorem fl1 {t : Nd} {X : Bool} {q : Int → Bool} : ((X && lenK t 1) && (q (kidAt t 0).kind && permF (kidAt t 0))) = ((X && kidsB t [q]) && t.kids.all permF) := by rw [Bool.and_assoc, Bool.and_assoc, kids_1]
theorem fl2 {t : Nd} {X : Bool} : ((X && lenK t 2) && t.kids.all exprB) = ((X && kidsB t [expK, expK]) && t.kids.all permF) := by rw [Bool.and_assoc, Bool.and_assoc, kids_2, all_2]; rfl
theorem flv {t : Nd} {X Y Z : Bool} (h : Y = Z) : ((X && Y) && t.kids.all exprB) = ((X && (Z && everyB t expK)) && t.kids.all permF) := by rw [Bool.and_assoc, Bool.and_assoc, Bool.and_assoc, exp_all, h]
theorem refExpr_eq (t : Nd) : refExpr t = exprB t := by
  rw [exprB, permF_eq, locB]
  unfold refExpr textB' formB
  by_cases h : t.kind = 24
  · rw [h]; exact fl0'
  by_cases h1 : t.kind = 25
  · rw [h1]; exact fl0'
  by_cases h2 : t.kind = 26
  · rw [h2]; exact fl0
  by_cases h3 : t.kind = 27
  · rw [h3]; exact fl0
  by_cases h4 : t.kind = 34
  · rw [h4]; exact fl0
  by_cases h5 : t.kind = 28
  · rw [h5]; exact fl1
  by_cases h6 : t.kind = 29
  · rw [h6]; exact fl2
  by_cases h7 : t.kind = 30
  · rw [h7]; exact flv (by rw [decide_eq_decide]; omega)
  by_cases h8 : t.kind = 31
  · rw [h8]; exact fl1
  by_cases h9 : t.kind = 32
  · rw [h9]; exact fl2
  by_cases h10 : t.kind = 33
  · rw [h10]; exact fl1
  by_cases h11 : t.kind = 35
  · rw [h11]; exact fl1
  by_cases h12 : t.kind = 36
  · rw [h12]; exact fl1
  by_cases h13 : t.kind = 37
  · rw [h13]; exact fl1
  by_cases h14 : t.kind = 38
  · rw [h14]; refine Eq.trans ?_ (fl1 (X := plainB t) (q := memK [10])); rw [memK_one]; rfl
  simp only [expK, anyK, decide_eq_false h, decide_eq_false h1, decide_eq_false h2, decide_eq_false h3, decide_eq_false h4, decide_eq_false h5, decide_eq_false h6, decide_eq_false h7, decide_eq_false h8, decide_eq_false h9, decide_eq_false h10, decide_eq_false h11, decide_eq_false h12, decide_eq_false h13, decide_eq_false h14, Bool.or_false, cond_false, Bool.false_and]
def refBlock (t : Nd) : Bool := bif !decide (t.kind = 10) || !plainB t then false else t.kids.all stmtB
def refIf (t : Nd) : Bool := bif (!decide (t.kind = 18) || !plainB t) || !lenK t 3 then false else (exprB (kidAt t 0) && blockB (kidAt t 1)) && ((blockB (kidAt t 2) || ifB (kidAt t 2)) || noneB (kidAt t 2))
def refVar (t : Nd) : Bool := (((decide (t.kind = 6) && nameB t.text) && lenK t 2) && isTypeB (kidAt t 0)) && (noneB (kidAt t 1) || exprB (kidAt t 1))
theorem or_two (a b p : Bool) : ((a && p) || (b && p)) = ((b || a) && p) := by cases a <;> cases b <;> cases p <;> rfl
theorem or_three (a b c p : Bool) : (((a && p) || (b && p)) || (c && p)) = (((a || b) || c) && p) := by cases a <;> cases b <;> cases c <;> cases p <;> rfl
theorem not_if2 (a b c : Bool) : (bif !a || !b then false else c) = ((a && b) && c) := by cases a <;> cases b <;> rfl
theorem not_if3 (a b c d : Bool) : (bif (!a || !b) || !c then false else d) = (((a && b) && c) && d) := by cases a <;> cases b <;> cases c <;> rfl
theorem noneB_eq (t : Nd) : noneB t = (decide (t.kind = 9) && permF t) := by
  rw [noneB]
  by_cases h : t.kind = 9
  · rw [permF_eq, locB, textB', formB, h, Bool.and_assoc]; exact congrArg (true && ·) fl0
  · rw [decide_eq_false h]; rfl
theorem isTypeB_eq (t : Nd) : isTypeB t = (typK t.kind && permF t) := by
  rw [permF_eq, locB]
  unfold isTypeB textB' formB
  by_cases h : t.kind = 8
  · rw [h]; exact fl0
  by_cases h1 : t.kind = 7
  · rw [h1]; exact fl0
  rw [decide_eq_false h, decide_eq_false h1, typK, anyK, anyK, decide_eq_false h, decide_eq_false h1]; rfl
theorem refBlock_eq (t : Nd) : refBlock t = blockB t := by
  rw [refBlock, blockB, not_if2]
  by_cases h : t.kind = 10
  · rw [permF_eq, locB, textB', formB, h, Bool.and_assoc]; exact congrArg (true && ·) (by
      refine Eq.trans ?_ (Bool.and_assoc (plainB t) (everyB t stK) _).symm
      rw [every_all]; rfl)
  · rw [decide_eq_false h]; rfl
theorem refIf_eq (t : Nd) : refIf t = ifB t := by
  rw [refIf, not_if3, show ifB t = (decide (t.kind = 18) && permF t) from rfl]
  by_cases h : t.kind = 18
  · rw [permF_eq, locB, textB', formB, h, Bool.and_assoc, Bool.and_assoc]; exact congrArg (true && ·) (by
      refine Eq.trans ?_ (Bool.and_assoc (plainB t) (kidsB t [expK, memK [10], memK [10, 18, 9]]) _).symm
      rw [kids_3, memK_one, noneB_eq, show memK [10, 18, 9] (kidAt t 2).kind = ((decide ((kidAt t 2).kind = 10) || decide ((kidAt t 2).kind = 18)) || decide ((kidAt t 2).kind = 9)) by simp [memK, Bool.or_assoc], ← or_three]; rfl)
  · rw [decide_eq_false h]; rfl
theorem refVar_eq (t : Nd) : refVar t = varB t := by
  rw [refVar, varB]
  by_cases h : t.kind = 6
  · rw [permF_eq, locB, textB', formB, h, Bool.and_assoc, Bool.and_assoc, Bool.and_assoc]; exact congrArg (true && ·) (by
      refine Eq.trans ?_ (Bool.and_assoc (nameB t.text) (kidsB t [typK, fun k => expK k || memK [9] k]) _).symm
      rw [kids_2, memK_one, noneB_eq, isTypeB_eq, show exprB (kidAt t 1) = (expK (kidAt t 1).kind && permF (kidAt t 1)) from rfl, or_two])
  · rw [decide_eq_false h]; rfl
def refComm (t : Nd) : Bool :=
  bif anyK [16, 9] t.kind then stmtB t || noneB t
  else bif decide (t.kind = 13) then stmtB t && decide ((kidAt t 0).kind = 33)
  else bif decide (t.kind = 12) then stmtB t && decide ((kidAt t 1).kind = 33)
  else bif decide (t.kind = 11) then stmtB t && decide ((kidAt t 0).kind = 33)
  else false
theorem perm_len1 {t : Nd} (h : t.kind = 13 ∨ t.kind = 11) (hp : permF t = true) : t.kids.length = 1 := by
  rw [permF_eq, locB, Bool.and_eq_true, Bool.and_eq_true] at hp
  have hf := hp.1.2
  rcases h with h | h <;> rw [formB, h] at hf
  · have : kidsB t [memK [30, 33]] = true := hf
    rw [kidsB, Bool.and_eq_true, decide_eq_true_eq] at this; exact this.1
  · have : kidsB t [expK] = true := hf
    rw [kidsB, Bool.and_eq_true, decide_eq_true_eq] at this; exact this.1
theorem perm_len2 {t : Nd} (h : t.kind = 12 ∨ t.kind = 6) (hp : permF t = true) : t.kids.length = 2 := by
  rw [permF_eq, locB, Bool.and_eq_true, Bool.and_eq_true] at hp
  have hf := hp.1.2
  rcases h with h | h <;> rw [formB, h] at hf
  · have : kidsB t [expK, expK] = true := hf
    rw [kidsB, Bool.and_eq_true, decide_eq_true_eq] at this; exact this.1
  · have : kidsB t [typK, fun k => expK k || memK [9] k] = true := hf
    rw [kidsB, Bool.and_eq_true, decide_eq_true_eq] at this; exact this.1
theorem and_mid {a b c : Bool} (h : a = true → b = true) : (a && c) = ((b && c) && a) := by revert h; cases a <;> cases b <;> cases c <;> simp
theorem refComm_eq (t : Nd) : refComm t = commF t := by
  rw [refComm, commF, noneB_eq, stmtB]
  unfold commB
  by_cases h : t.kind = 16
  · rw [h]; exact (show (permF t || false) = _ from Bool.or_false _)
  by_cases h1 : t.kind = 9
  · rw [h1]; rfl
  by_cases h2 : t.kind = 13
  · have hl : permF t = true → decide (((t.kids.length : Int) - 1) = 0) = true := fun hp => by rw [perm_len1 (.inl h2) hp]; rfl
    rw [h2]; exact (show _ = ((decide (((t.kids.length : Int) - 1) = 0) && decide ((kidAt t 0).kind = 33)) && permF t) from and_mid hl)
  by_cases h3 : t.kind = 12
  · have hl : permF t = true → decide (((t.kids.length : Int) - 1) = 1) = true := fun hp => by rw [perm_len2 (.inl h3) hp]; rfl
    rw [h3]; exact (show _ = ((decide (((t.kids.length : Int) - 1) = 1) && decide ((kidAt t 1).kind = 33)) && permF t) from and_mid hl)
  by_cases h4 : t.kind = 11
  · have hl : permF t = true → decide (((t.kids.length : Int) - 1) = 0) = true := fun hp => by rw [perm_len1 (.inr h4) hp]; rfl
    rw [h4]; exact (show _ = ((decide (((t.kids.length : Int) - 1) = 0) && decide ((kidAt t 0).kind = 33)) && permF t) from and_mid hl)
  simp only [anyK, decide_eq_false h, decide_eq_false h1, decide_eq_false h2, decide_eq_false h3, decide_eq_false h4, Bool.or_false, cond_false, Bool.false_and]
def caseB (t : Nd) : Bool := (((decide (t.kind = 23) && plainB t) && lenK t 2) && commF (kidAt t 0)) && blockB (kidAt t 1)
theorem caseB_eq (t : Nd) : caseB t = (decide (t.kind = 23) && permF t) := by
  rw [caseB]
  by_cases h : t.kind = 23
  · rw [permF_eq, locB, textB', formB, h]
    refine Eq.trans (b := ((plainB t && ((lenK t 2 && commB (kidAt t 0)) && memK [10] (kidAt t 1).kind)) && t.kids.all permF)) ?_ rfl
    rw [memK_one, show ((plainB t && ((lenK t 2 && commB (kidAt t 0)) && decide ((kidAt t 1).kind = 10))) && t.kids.all permF) = ((plainB t && (commB (kidAt t 0) && decide ((kidAt t 1).kind = 10))) && (lenK t 2 && t.kids.all permF)) by ac_rfl, all_2, commF, blockB]
    show (((plainB t && lenK t 2) && _) && _) = _
    ac_rfl
  · rw [decide_eq_false h]; rfl
def refSelect (t : Nd) : Bool := t.kids.all caseB && plainB t
theorem refSelect_eq {t : Nd} (h : t.kind = 22) : refSelect t = permF t := by
  rw [permF_eq, locB, textB', formB, h]
  refine Eq.trans (b := ((plainB t && everyB t (memK [23])) && t.kids.all permF)) ?_ rfl
  rw [Bool.and_assoc, every_all, refSelect, Bool.and_comm]
  congr 2
  funext k
  rw [caseB_eq, memK_one]
def refStmt (t : Nd) : Bool :=
  bif decide (t.kind = 6) then varB t
  else bif decide (t.kind = 10) then blockB t
  else bif decide (t.kind = 18) then ifB t
  else bif decide (t.kind = 22) then permF t
  else bif decide (t.kind = 11) then (nameB t.text && lenK t 1) && exprB (kidAt t 0)
  else bif anyK [12, 16] t.kind then (plainB t && lenK t 2) && t.kids.all exprB
  else bif decide (t.kind = 13) then (plainB t && lenK t 1) && (kindB (kidAt t 0) 30 || kindB (kidAt t 0) 33)
  else bif anyK [14, 15] t.kind then (plainB t && lenK t 1) && kindB (kidAt t 0) 30
  else bif anyK [17, 21] t.kind then (plainB t && lenK t 1) && exprB (kidAt t 0)
  else bif decide (t.kind = 20) then (plainB t && decide ((t.kids.length : Int) ≤ 1)) && t.kids.all exprB
  else bif decide (t.kind = 19) then ((plainB t && lenK t 2) && (noneB (kidAt t 0) || exprB (kidAt t 0))) && blockB (kidAt t 1)
  else false
theorem kindB_30 (t : Nd) : kindB t 30 = (memK [30] t.kind && permF t) := by
  rw [kindB, memK_one, exprB]
  by_cases h : t.kind = 30
  · rw [h]; rfl
  · rw [decide_eq_false h]; rfl
theorem kindB_33 (t : Nd) : kindB t 33 = (decide (t.kind = 33) && permF t) := by
  rw [kindB, exprB]
  by_cases h : t.kind = 33
  · rw [h]; rfl
  · rw [decide_eq_false h]; rfl
theorem kindB_or (t : Nd) : (kindB t 30 || kindB t 33) = (memK [30, 33] t.kind && permF t) := by
  rw [kindB_30, kindB_33, or_two, memK_one]; congr 1; simp [memK, Bool.or_comm]
theorem ret_len {t : Nd} : (decide ((t.kids.length : Int) ≤ 1) && t.kids.all exprB) = ((lenK t 0 || kidsB t [expK]) && t.kids.all permF) := by
  by_cases h : t.kids.length = 0
  · rw [List.length_eq_zero_iff.1 h, show lenK t 0 = true by rw [lenK, decide_eq_true_eq]; omega]; rfl
  by_cases h1 : t.kids.length = 1
  · rw [show lenK t 0 = false from lenK_f 0 h, Bool.false_or, kids_1, show decide ((t.kids.length : Int) ≤ 1) = lenK t 1 by rw [lenK, decide_eq_decide]; omega, all_1]; rfl
  · rw [show lenK t 0 = false from lenK_f 0 h, kidsB_f h1, decide_eq_false (by omega)]; rfl
theorem refStmt_eq (t : Nd) : refStmt t = stmtB t := by
  rw [stmtB]
  by_cases h : t.kind = 6
  · rw [refStmt, varB, h]; rfl
  by_cases h1 : t.kind = 10
  · rw [refStmt, blockB, h1]; rfl
  by_cases h2 : t.kind = 18
  · rw [refStmt, ifB, h2]; rfl
  by_cases h3 : t.kind = 22
  · rw [refStmt, h3]; rfl
  rw [permF_eq, locB]
  unfold refStmt textB' formB
  by_cases h4 : t.kind = 11
  · rw [h4]; exact fl1
  by_cases h5 : t.kind = 12
  · rw [h5]; exact fl2
  by_cases h6 : t.kind = 16
  · rw [h6]; exact fl2
  by_cases h7 : t.kind = 13
  · rw [h7]; refine Eq.trans ?_ (fl1 (X := plainB t) (q := memK [30, 33])); rw [← kindB_or]; rfl
  by_cases h8 : t.kind = 14
  · rw [h8]; refine Eq.trans ?_ (fl1 (X := plainB t) (q := memK [30])); rw [← kindB_30]; rfl
  by_cases h9 : t.kind = 15
  · rw [h9]; refine Eq.trans ?_ (fl1 (X := plainB t) (q := memK [30])); rw [← kindB_30]; rfl
  by_cases h10 : t.kind = 17
  · rw [h10]; exact fl1
  by_cases h11 : t.kind = 21
  · rw [h11]; exact fl1
  by_cases h12 : t.kind = 20
  · rw [h12]; refine Eq.trans (b := (plainB t && decide ((t.kids.length : Int) ≤ 1)) && t.kids.all exprB) rfl ?_
    rw [Bool.and_assoc, ret_len, ← Bool.and_assoc]; rfl
  by_cases h13 : t.kind = 19
  · rw [h13]
    refine Eq.trans (b := ((plainB t && lenK t 2) && (noneB (kidAt t 0) || exprB (kidAt t 0))) && blockB (kidAt t 1)) rfl (Eq.trans (b := ((plainB t && kidsB t [fun k => expK k || memK [9] k, memK [10]]) && t.kids.all permF)) ?_ rfl)
    rw [Bool.and_assoc (plainB t) (kidsB t _), kids_2, memK_one, memK_one, noneB_eq, show exprB (kidAt t 0) = (expK (kidAt t 0).kind && permF (kidAt t 0)) from rfl, or_two, blockB]
    ac_rfl
  simp only [stK, anyK, decide_eq_false h, decide_eq_false h1, decide_eq_false h2, decide_eq_false h3, decide_eq_false h4, decide_eq_false h5, decide_eq_false h6, decide_eq_false h7, decide_eq_false h8, decide_eq_false h9, decide_eq_false h10, decide_eq_false h11, decide_eq_false h12, decide_eq_false h13, Bool.or_false, cond_false, Bool.false_and]
end Go.Rk
namespace Go.Rk
open Go Go.RowKit
end Go.Rk
namespace Go.Rk
open Go Go.RowKit
end Go.Rk
namespace Go.Rk
open Go Go.RowKit
theorem count_kidAt {t : Nd} {i : Nat} (h : i < t.kids.length) : count (kidAt t i) < count t := by
  rw [kidAt_eq h]; have := count_mem (List.getElem_mem h); omega
end Go.Rk
namespace Go.Rk
open Go Go.RowKit
set_option linter.unusedVariables false
section
variable {P : Program} {n : Nat} {σ : List Ent} {c : Prop} {wb : World} {ty : TypeId}
end
end Go.Rk
namespace Go.Rk
open Go Go.RowKit
def fieldB (t : Nd) : Bool := decide (t.kind = 3) && permF t
theorem fieldB_not (t : Nd) : (!fieldB t) = (((!decide (t.kind = 3) || !nameB t.text) || !lenK t 1) || !isTypeB (kidAt t 0)) := by
  have e : fieldB t = (((decide (t.kind = 3) && nameB t.text) && lenK t 1) && isTypeB (kidAt t 0)) := by
    rw [fieldB]
    by_cases h : t.kind = 3
    · rw [permF_eq, locB, textB', formB, h, isTypeB_eq]; exact congrArg (true && ·) (fl1 (X := nameB t.text) (q := typK)).symm |>.trans (by rfl)
    · rw [decide_eq_false h]; rfl
  rw [e]
  cases decide (t.kind = 3) <;> cases nameB t.text <;> cases lenK t 1 <;> cases isTypeB (kidAt t 0) <;> rfl
def declB (t : Nd) : Bool := (memK [2, 6, 4] t.kind && permF t) && !fileVarB t
def refDecl (t : Nd) : Bool :=
  bif decide (t.kind = 2) then nameB t.text && t.kids.all fieldB
  else bif decide (t.kind = 6) then varB t && noneB (kidAt t 1)
  else bif decide (t.kind = 4) then
    bif !nameB t.text || !lenK t 3 then false else (((decide ((kidAt t 0).kind = 5) && plainB (kidAt t 0)) && (kidAt t 0).kids.all fieldB) && (noneB (kidAt t 1) || isTypeB (kidAt t 1))) && blockB (kidAt t 2)
  else false
theorem all_field {t : Nd} : (everyB t (memK [3]) && t.kids.all permF) = t.kids.all fieldB := by
  rw [every_all]; congr 1; funext k; rw [memK_one]; rfl
theorem params_eq (t : Nd) : ((decide (t.kind = 5) && plainB t) && t.kids.all fieldB) = (memK [5] t.kind && permF t) := by
  rw [memK_one]
  by_cases h : t.kind = 5
  · rw [permF_eq t, locB, textB', formB, h, Bool.and_assoc]; exact congrArg (true && ·) (by rw [← all_field, ← Bool.and_assoc]; rfl)
  · rw [decide_eq_false h]; rfl
theorem refDecl_eq (t : Nd) : refDecl t = declB t := by
  rw [refDecl, declB]
  by_cases h : t.kind = 2
  · rw [permF_eq t, locB, textB', formB, fileVarB, h]
    refine Eq.trans (b := (nameB t.text && everyB t (memK [3])) && t.kids.all permF) ?_ (Eq.trans (Bool.and_true _).symm rfl)
    rw [Bool.and_assoc (nameB t.text) (everyB t _), all_field]; rfl
  by_cases h1 : t.kind = 6
  · rw [varB, fileVarB, h1]
    refine Eq.trans (b := permF t && noneB (kidAt t 1)) rfl (Eq.trans (b := permF t && !(!lenK t 2 || !decide ((kidAt t 1).kind = 9))) ?_ rfl)
    rw [noneB_eq]
    cases hp : permF t with
    | false => rfl
    | true =>
      have hl := perm_len2 (.inr h1) hp
      have hk : permF (kidAt t 1) = true := by
        rw [permF_eq, Bool.and_eq_true, List.all_eq_true] at hp
        rw [kidAt_eq (by omega)]; exact hp.2 _ (List.getElem_mem _)
      rw [hk, show lenK t 2 = true by rw [lenK, decide_eq_true_eq]; omega]
      cases decide ((kidAt t 1).kind = 9) <;> rfl
  by_cases h2 : t.kind = 4
  · rw [params_eq, permF_eq t, locB, textB', formB, fileVarB, h2]
    refine Eq.trans (b := bif !nameB t.text || !lenK t 3 then false else ((memK [5] (kidAt t 0).kind && permF (kidAt t 0)) && (noneB (kidAt t 1) || isTypeB (kidAt t 1))) && blockB (kidAt t 2)) rfl (Eq.trans (b := (nameB t.text && kidsB t [memK [5], fun k => typK k || memK [9] k, memK [10]]) && t.kids.all permF) ?_ (Eq.trans (Bool.and_true _).symm rfl))
    rw [not_if2, Bool.and_assoc (nameB t.text) (kidsB t _), kids_3, noneB_eq, isTypeB_eq, or_two, blockB, memK_one 9, memK_one 10]
    ac_rfl
  simp only [memK, List.mem_cons, List.not_mem_nil, h, h1, h2, decide_false, or_false, cond_false, Bool.false_and]
theorem rvalid_eq (t : Nd) : (bif (!decide (t.kind = 1) || !plainB t) || decide ((50 : Int) < (depthN t : Nat)) then false else t.kids.all declB) = validB t := by
  rw [validB, permB]
  by_cases h : t.kind = 1
  · rw [permF_eq, locB, textB', formB, h]
    refine Eq.trans (b := bif !plainB t || decide ((50 : Int) < (depthN t : Nat)) then false else t.kids.all declB) rfl (Eq.trans (b := ((plainB t && (!(t.kids.any fileVarB) && everyB t (memK [2, 6, 4]))) && t.kids.all permF) && decide (depthN t ≤ 50)) ?_ rfl)
    have e1 : decide ((50 : Int) < (depthN t : Nat)) = !decide (depthN t ≤ 50) := by
      rw [← decide_not, decide_eq_decide]; omega
    have e2 : t.kids.all declB = ((!(t.kids.any fileVarB) && everyB t (memK [2, 6, 4])) && t.kids.all permF) := by
      rw [Bool.and_assoc, every_all, Bool.eq_iff_iff]
      simp only [Bool.and_eq_true, List.all_eq_true, declB, Bool.not_eq_true', List.any_eq_false]
      constructor
      · intro h; exact ⟨fun k hk => by rw [(h k hk).2]; simp, fun k hk => (h k hk).1⟩
      · rintro ⟨h1, h2⟩ k hk; exact ⟨h2 k hk, by simpa using h1 k hk⟩
    rw [e1, not_if2, e2]; ac_rfl
  · rw [decide_eq_false h]; rfl
end Go.Rk
namespace Go.Rk
open Go Go.RowKit
def countsB (t : Nd) : Bool := decide (t.kind = 24) || decide (t.kind = 25)
def lenQ (a b : Nd) : Bool := decide ((a.kids.length : Int) = b.kids.length)
def eqLoc (a b : Nd) : Bool := ((decide (a.kind = b.kind) && decide (a.text = b.text)) && lenQ a b) && (!countsB a || decide (a.num = b.num))
theorem eqLoc_not (a b : Nd) : (!eqLoc a b) = (((!decide (a.kind = b.kind) || !decide (a.text = b.text)) || !lenQ a b) || (countsB a && !decide (a.num = b.num))) := by
  unfold eqLoc
  cases decide (a.kind = b.kind) <;> cases decide (a.text = b.text) <;> cases lenQ a b <;> cases countsB a <;> cases decide (a.num = b.num) <;> rfl
/-- A comparison, node by node. -/
def cmpT (q : Nd → Nd → Bool) (a : Nd) : Nd → Bool := para (fun a l b => q a b && (List.range a.kids.length).all fun i => (l.getD i fun _ => false) (kidAt b i)) a
theorem all_range {n : Nat} {f h : Nat → Bool} (e : ∀ i, i < n → f i = h i) : (List.range n).all f = (List.range n).all h := by
  rw [Bool.eq_iff_iff, List.all_eq_true, List.all_eq_true]
  exact ⟨fun k i hi => (e i (List.mem_range.1 hi)) ▸ k i hi, fun k i hi => (e i (List.mem_range.1 hi)).symm ▸ k i hi⟩
theorem cmpT_eq (q : Nd → Nd → Bool) (a b : Nd) : cmpT q a b = (q a b && (List.range a.kids.length).all fun i => cmpT q (kidAt a i) (kidAt b i)) := by
  rw [cmpT, para_eq]
  refine congrArg (q a b && ·) (all_range fun i hi => ?_)
  have : (a.kids.map (cmpT q)).getD i (fun _ => false) = cmpT q (kidAt a i) := by
    rw [kidAt_eq hi]; simp [List.getD_eq_getElem?_getD, List.getElem?_eq_getElem hi]
  exact congrFun this (kidAt b i)
def eqB (a b : Nd) : Bool := cmpT eqLoc a b
theorem eqB_eq (a b : Nd) : eqB a b = (eqLoc a b && (List.range a.kids.length).all fun i => eqB (kidAt a i) (kidAt b i)) := cmpT_eq eqLoc a b
theorem lenQ_iff {a b : Nd} : lenQ a b = true ↔ a.kids.length = b.kids.length := by rw [lenQ, decide_eq_true_eq]; omega
def tyQB (a b : Ty) : Bool := decide (a.kind = b.kind) && (decide (a.name = b.name) && true)
def smLoc (a b : Nd) : Bool := ((((((decide (a.kind = b.kind) && decide (a.text = b.text)) && decide (a.num = b.num)) && decide (a.pos = b.pos)) && tyQB a.ty b.ty) && decide (a.ref = b.ref)) && decide (a.up = b.up)) && lenQ a b
def smB (a b : Nd) : Bool := cmpT smLoc a b
end Go.Rk
namespace Go.Rk
open Go Go.RowKit
set_option linter.unusedVariables false
def numS (t : Nd) : Int := bif countsB t then t.num else 0
def stripT (t : Nd) : Nd := para (fun t l => .mk t.kind t.text (numS t) 0 l ty0 0 0) t
theorem stripT_eq (t : Nd) : stripT t = .mk t.kind t.text (numS t) 0 (t.kids.map stripT) ty0 0 0 := para_eq _ t
def plainT (t : Nd) : Nd := para (fun t l => .mk t.kind t.text (numS t) t.pos l ty0 0 0) t
theorem strip_cells (t : Nd) (v : Value) : ndCells (stripT t) v = [.int .i64 t.kind, Str t.text, .int .i64 (numS t), .int .i64 0, v, .int .i64 0, Str [], .int .i64 0, .int .i64 0] := by rw [stripT_eq]; rfl
theorem strip_kids (t : Nd) : (stripT t).kids = t.kids.map stripT := by rw [stripT_eq]; rfl
theorem retNd_kd {t : Nd} {base : Nat} {v : Value} {w : World} (h : Kd w (fun b => base ≤ b) t.kids v) : RetNd t base (ndV t v) w := by
  obtain ⟨p, c, rfl, h2⟩ := h
  exact ⟨p, c, rfl, p, c, rfl, h2⟩
end Go.Rk
namespace Go.Rk
open Go Go.RowKit
/-- A tree comes back, its children's blocks all of D. -/
def RetD (D : Nat → Prop) (t : Nd) (r : Value) (w : World) : Prop := ∃ p c, r = ndV t (.slice p t.kids.length c) ∧ Kd w D t.kids (.slice p t.kids.length c)
theorem RetD.grow {D : Nat → Prop} {t : Nd} {r : Value} {w w' : World} (h : RetD D t r w) (g : G w w') : RetD D t r w' := by
  obtain ⟨p, c, e, k⟩ := h
  exact ⟨p, c, e, k.grow g⟩
theorem RetD.mono {D D' : Nat → Prop} {t : Nd} {r : Value} {w : World} (h : RetD D t r w) (hD : ∀ b, D b → D' b) : RetD D' t r w := by
  obtain ⟨p, c, e, k⟩ := h
  exact ⟨p, c, e, k.mono fun b hb _ => hD b hb⟩
@[reducible] def GE (n : Nat) : Nat → Prop := fun b => n ≤ b
theorem kd_one {w : World} {D : Nat → Prop} {t : Nd} {v : Value} {b : Nat} {e : TypeId} (hb : D b) (h : Blk w b e (ndCells t v)) (hk : Kd w D t.kids v) : Kd w D [t] (.slice (some ⟨b, 0, none⟩) 1 1) := kd_row hb h.row (krow_one hk) (Nat.le_refl _)
theorem OwnK.low {e : TypeId} {D : Nat → Prop} {base : Nat} {w : World} {ks : List Nd} {s : Value} (h : OwnK e D base w ks s) : OwnK e (fun b => D b ∧ b < w.heap.size) base w ks s := by
  have hlt := h.lt
  obtain ⟨xs, h1, h2, h3⟩ := h
  exact ⟨xs, h1, h2.lt.mono fun b hb _ => ⟨⟨hb.1.1, hb.2⟩, hb.1.2⟩, fun b hb => ⟨h3 b hb, hlt b hb⟩⟩
theorem OwnK.mono {e : TypeId} {D D' : Nat → Prop} {base : Nat} {w : World} {ks : List Nd} {s : Value} (h : OwnK e D base w ks s) (hD : ∀ b, D b → D' b) : OwnK e D' base w ks s := by
  obtain ⟨xs, h1, h2, h3⟩ := h
  exact ⟨xs, h1, h2.mono fun b hb _ => ⟨hD b hb.1, hb.2⟩, fun b hb => hD b (h3 b hb)⟩
end Go.Rk
namespace Go.Rk
open Go Go.RowKit
set_option linter.unusedVariables false
theorem sequal_ok : ∀ (a : Nd) (va : Value) (D : Nat → Prop) (b : Nd) (vb : Value) (D' : Nat → Prop) (w : World), Kd w D a.kids va → Kd w D' b.kids vb → count a ≤ 1000000 → Ret PP fn_syntax_Equal #[ndV a va, ndV b vb] w fun r w' => r = .bool (eqB a b) ∧ G w w' := by
  refine Nd.ind fun a ih va D b vb D' w hka hkb hcn => ?_
  obtain ⟨pa, ca, rfl, hcapa, hksa⟩ := hka
  have hka0 : Kd w D a.kids (.slice pa a.kids.length ca) := ⟨pa, ca, rfl, hcapa, hksa⟩
  obtain ⟨pb', cb, rfl, hcapb, hksb⟩ := hkb
  have hkb0 : Kd w D' b.kids (.slice pb' b.kids.length cb) := ⟨pb', cb, rfl, hcapb, hksb⟩
  have g := G.refl w
  have hln := kids_le a
  rw [eqB_eq]
  refine ret_of_sc (m := 61) func_syntax_Equal rfl rfl [(0, True, _), (1, True, _)] (sub_cons rfl (sub_cons rfl (sub_nil _))) ?_
  refine sc_seq fun K1 hK1 => ?_
  refine sc_text [1, 1, 3] ?_
  refine sr_box rfl (ev_t rfl) rfl ?_
  intro b2 w2 N2
  have l2 := N2.ge g
  have g := g.trans (N2.g)
  have B2 := N2.blk
  refine sr_box rfl (ev_t rfl) rfl ?_
  intro b3 w3 N3
  have x3_2 := N3.ne B2
  have l3 := N3.ge g
  have g := g.trans (N3.g)
  replace B2 := B2.grow (N3.g)
  have B3 := N3.blk
  refine sr_pu rfl (fun _ => rd_assign ev_c) ?_
  refine sr_sub [(2, _, _), (3, _, _), (4, _, _)] (sub_cons rfl (sub_cons rfl (sub_cons rfl (sub_nil _)))) ?_
  refine sr_nil (hK1 _ _ ?_)
  refine sc_seq fun K2 hK2 => ?_
  refine sc_seq fun K3 hK3 => ?_
  refine sc_text [3, 0, 3, 0, 3, 3, 3, 0, 3, 0, 3, 3, 3, 3, 0, 3, 3, 0, 3, 3, 3] ?_
  refine sr_pu rfl (fun _ => rd_field fo_api_Node_0 (ev_t rfl)) ?_
  refine sr_rd rfl (rd_load one_int (ev_t rfl) (fun _ => B2.at_ rfl)) ?_
  refine sr_pu rfl (fun _ => rd_field fo_api_Node_0 (ev_t rfl)) ?_
  refine sr_rd rfl (rd_load one_int (ev_t rfl) (fun _ => B3.at_ rfl)) ?_
  refine sr_pu rfl (fun _ => rd_ne (ev_t rfl) (ev_t rfl)) ?_
  refine sr_pu rfl (fun _ => rd_move (ev_t rfl)) ?_
  refine sr_pug rfl rfl rfl (fun _ => rd_field fo_api_Node_1 (ev_t rfl)) ?_
  refine sr_rdg rfl rfl rfl (rd_load one_string (ev_u rfl id) (fun _ => B2.at_ rfl)) ?_
  refine sr_pug rfl rfl rfl (fun _ => rd_field fo_api_Node_1 (ev_t rfl)) ?_
  refine sr_rdg rfl rfl rfl (rd_load one_string (ev_u rfl id) (fun _ => B3.at_ rfl)) ?_
  refine sr_pug rfl rfl rfl (fun _ => rd_sne (ev_u rfl id) (ev_u rfl id)) ?_
  refine sr_pu rfl (fun _ => rd_pick_or (ev_t rfl) (ev_u rfl id)) ?_
  refine sr_pu rfl (fun _ => rd_move (ev_t rfl)) ?_
  refine sr_pug rfl rfl rfl (fun _ => rd_field fo_api_Node_4 (ev_t rfl)) ?_
  refine sr_rdg rfl rfl rfl (rd_load one_sl_api_Node (ev_u rfl id) (fun _ => B2.at_ rfl)) ?_
  refine sr_pug rfl rfl rfl (fun _ => rd_len el_sl_api_Node (ev_u rfl id)) ?_
  refine sr_pug rfl rfl rfl (fun _ => rd_field fo_api_Node_4 (ev_t rfl)) ?_
  refine sr_rdg rfl rfl rfl (rd_load one_sl_api_Node (ev_u rfl id) (fun _ => B3.at_ rfl)) ?_
  refine sr_pug rfl rfl rfl (fun _ => rd_len el_sl_api_Node (ev_u rfl id)) ?_
  refine sr_pug rfl rfl rfl (fun _ => rd_ne (ev_u rfl id) (ev_u rfl id)) ?_
  refine sr_pu rfl (fun _ => rd_pick_or (ev_t rfl) (ev_u rfl id)) ?_
  refine sr_sub [(2, _, _), (3, _, _), (4, _, _), (26, _, _)] (sub_cons rfl (sub_cons rfl (sub_cons rfl (sub_cons rfl (sub_nil _))))) ?_
  refine sr_nil (hK3 _ _ ?_)
  refine sc_cond (ev_t rfl) (fun h1 => ?_) (fun h1 => ?_)
  · replace h1 : ((!decide (a.kind = b.kind) || !decide (a.text = b.text)) || !lenQ a b) = true := h1
    have he : eqLoc a b = false := by have := eqLoc_not a b; rw [h1] at this; simpa using this
    refine sc_seq fun K4 hK4 => ?_
    refine sc_text [3] ?_
    refine sr_pu rfl (fun _ => rd_assign ev_c) ?_
    refine sr_sub [(2, _, _), (3, _, _), (4, _, _)] (sub_cons rfl (sub_cons rfl (sub_cons rfl (sub_nil _)))) ?_
    refine sr_nil (hK4 _ _ ?_)
    refine sc_ret (t_ret1 rfl rfl ?_)
    rw [he]; exact ⟨rfl, g⟩
  replace h1 : ((!decide (a.kind = b.kind) || !decide (a.text = b.text)) || !lenQ a b) = false := h1
  have hl : a.kids.length = b.kids.length := by
    have := (Bool.or_eq_false_iff.1 h1).2
    exact lenQ_iff.1 (by simpa using this)
  refine sc_skip (hK2 _ _ ?_)
  refine sc_sub [(2, _, _), (3, _, _), (4, _, _)] (sub_cons rfl (sub_cons rfl (sub_cons rfl (sub_nil _)))) ?_
  refine sc_seq fun K5 hK5 => ?_
  refine sc_seq fun K6 hK6 => ?_
  refine sc_text [3, 0, 3, 3, 3, 0, 3, 3, 3, 3, 0, 3, 0, 3, 3] ?_
  refine sr_pu rfl (fun _ => rd_field fo_api_Node_0 (ev_t rfl)) ?_
  refine sr_rd rfl (rd_load one_int (ev_t rfl) (fun _ => B2.at_ rfl)) ?_
  refine sr_pu rfl (fun _ => rd_eq (ev_t rfl) ev_c) ?_
  refine sr_pu rfl (fun _ => rd_move (ev_t rfl)) ?_
  refine sr_pug rfl rfl rfl (fun _ => rd_field fo_api_Node_0 (ev_t rfl)) ?_
  refine sr_rdg rfl rfl rfl (rd_load one_int (ev_u rfl id) (fun _ => B2.at_ rfl)) ?_
  refine sr_pug rfl rfl rfl (fun _ => rd_eq (ev_u rfl id) ev_c) ?_
  refine sr_pu rfl (fun _ => rd_pick_or (ev_t rfl) (ev_u rfl id)) ?_
  refine sr_pu rfl (fun _ => rd_move (ev_t rfl)) ?_
  refine sr_pug rfl rfl rfl (fun _ => rd_field fo_api_Node_2 (ev_t rfl)) ?_
  refine sr_rdg rfl rfl rfl (rd_load one_int (ev_u rfl id) (fun _ => B2.at_ rfl)) ?_
  refine sr_pug rfl rfl rfl (fun _ => rd_field fo_api_Node_2 (ev_t rfl)) ?_
  refine sr_rdg rfl rfl rfl (rd_load one_int (ev_u rfl id) (fun _ => B3.at_ rfl)) ?_
  refine sr_pug rfl rfl rfl (fun _ => rd_ne (ev_u rfl id) (ev_u rfl id)) ?_
  refine sr_pu rfl (fun _ => rd_pick_and (ev_t rfl) (ev_u rfl id)) ?_
  refine sr_sub [(2, _, _), (3, _, _), (4, _, _), (41, _, _)] (sub_cons rfl (sub_cons rfl (sub_cons rfl (sub_cons rfl (sub_nil _))))) ?_
  refine sr_nil (hK6 _ _ ?_)
  refine sc_cond (ev_t rfl) (fun h2 => ?_) (fun h2 => ?_)
  · replace h2 : (countsB a && !decide (a.num = b.num)) = true := h2
    have he : eqLoc a b = false := by have := eqLoc_not a b; rw [h2] at this; simpa using this
    refine sc_seq fun K7 hK7 => ?_
    refine sc_text [3] ?_
    refine sr_pu rfl (fun _ => rd_assign ev_c) ?_
    refine sr_sub [(2, _, _), (3, _, _), (4, _, _)] (sub_cons rfl (sub_cons rfl (sub_cons rfl (sub_nil _)))) ?_
    refine sr_nil (hK7 _ _ ?_)
    refine sc_ret (t_ret1 rfl rfl ?_)
    rw [he]; exact ⟨rfl, g⟩
  replace h2 : (countsB a && !decide (a.num = b.num)) = false := h2
  have he : eqLoc a b = true := by have := eqLoc_not a b; rw [h1, h2] at this; simpa using this
  refine sc_skip (hK5 _ _ ?_)
  refine sc_sub [(2, _, _), (3, _, _), (4, _, _)] (sub_cons rfl (sub_cons rfl (sub_cons rfl (sub_nil _)))) ?_
  refine sc_seq fun K8 hK8 => ?_
  refine sc_seq fun K9 hK9 => ?_
  refine sc_text [3, 0, 3, 3] ?_
  refine sr_pu rfl (fun _ => rd_field fo_api_Node_4 (ev_t rfl)) ?_
  refine sr_rd rfl (rd_load one_sl_api_Node (ev_t rfl) (fun _ => B2.at_ rfl)) ?_
  refine sr_pu rfl (fun _ => rd_len el_sl_api_Node (ev_t rfl)) ?_
  refine sr_pu rfl (fun _ => rd_move ev_c) ?_
  refine sr_sub [(2, _, _), (3, _, _), (4, _, _), (44, _, _), (45, _, _)] (sub_cons rfl (sub_cons rfl (sub_cons rfl (sub_cons rfl (sub_cons rfl (sub_nil _)))))) ?_
  refine sr_nil (hK9 _ _ ?_)
  refine sc_block ?_
  refine sc_loop2 (fun (i : Nat) u1 => (i ≤ a.kids.length ∧ ∀ j, j < i → eqB (kidAt a j) (kidAt b j) = true) ∧ G w3 u1) [(2, True, _), (3, True, _), (44, True, _)] (fun (i : Nat) => [(45, True, .int .i64 i)]) (fun (i : Nat) => a.kids.length - i) (0) ⟨⟨Nat.zero_le _, fun j hj => absurd hj (Nat.not_lt_zero j)⟩, G.refl _⟩ (sub_cons rfl (sub_cons rfl (sub_cons rfl (sub_cons rfl (sub_nil _))))) ?_
  rintro i u1 ⟨hI1, gl1⟩
  have g := g.trans gl1
  replace B2 := B2.grow (gl1)
  replace B3 := B3.grow (gl1)
  refine sc_seq fun K10 hK10 => ?_
  refine sc_text [3] ?_
  refine sr_pu rfl (fun _ => rd_lt (ev_t rfl) (ev_t rfl)) ?_
  refine sr_nil (hK10 _ _ ?_)
  refine sc_sub [(2, _, _), (3, _, _), (44, _, _), (45, _, _), (46, _, _)] (sub_cons rfl (sub_cons rfl (sub_cons rfl (sub_cons rfl (sub_cons rfl (sub_nil _)))))) ?_
  refine sc_seq fun K11 hK11 => ?_
  refine sc_cond (ev_t rfl) (fun h3 => ?_) (fun h3 => ?_)
  · replace h3 : i < a.kids.length := by simp only [decide_eq_true_eq] at h3; omega
    obtain ⟨hpa, p1, c1, hcell1, hkid1⟩ := kd_opt hka0 h3
    obtain ⟨hpb, p2, c2, hcell2, hkid2⟩ := kd_opt hkb0 (i := i) (by omega)
    have hck := count_kidAt h3
    refine sc_skip (hK11 _ _ ?_)
    refine sc_sub [(2, _, _), (3, _, _), (44, _, _), (45, _, _)] (sub_cons rfl (sub_cons rfl (sub_cons rfl (sub_cons rfl (sub_nil _))))) ?_
    refine sc_seq fun K12 hK12 => ?_
    refine sc_block ?_
    refine sc_seq fun K13 hK13 => ?_
    refine sc_text [3, 3] ?_
    refine sr_pu rfl (fun _ => rd_move (ev_t rfl)) ?_
    refine sr_pu rfl (fun _ => rd_assign (ev_t rfl)) ?_
    refine sr_sub [(2, _, _), (3, _, _), (5, _, _), (44, _, _), (45, _, _)] (sub_cons rfl (sub_cons rfl (sub_cons rfl (sub_cons rfl (sub_cons rfl (sub_nil _)))))) ?_
    refine sr_nil (hK13 _ _ ?_)
    refine sc_seq fun K14 hK14 => ?_
    refine sc_draw [3, 0, 3, 3, 0, 3, 0, 3, 3, 0, 1, 3] [true, true, true, true, true, true, true, true, true, true, true, true] [0, 1, 0, 7, 15, 0, 32, 0, 224, 480, 1023, 2047] mix (by kernel_rfl) ?_
    have g := g.trans (G.drew _)
    try have gl1 := gl1.trans (G.drew _)
    replace B2 := B2.grow (G.drew _)
    replace B3 := B3.grow (G.drew _)
    refine sr_pu rfl (fun _ => rd_field fo_api_Node_4 (ev_t rfl)) ?_
    refine sr_rd rfl (rd_load one_sl_api_Node (ev_t rfl) (fun _ => B2.at_ rfl)) ?_
    refine sr_pu rfl (fun _ => rd_move (ev_t rfl)) ?_
    refine sr_pu rfl (fun _ => rd_idxq el_sl_api_Node (ev_t rfl) (ev_t rfl) (fun _ => by omega) (fun _ => hpa)) ?_
    refine sr_rd rfl (rd_loads agg_api_Node (ev_t rfl) rfl (fun _ => hcell1.grow g)) ?_
    refine sr_pu rfl (fun _ => rd_field fo_api_Node_4 (ev_t rfl)) ?_
    refine sr_rd rfl (rd_load one_sl_api_Node (ev_t rfl) (fun _ => B3.at_ rfl)) ?_
    refine sr_pu rfl (fun _ => rd_move (ev_t rfl)) ?_
    refine sr_pu rfl (fun _ => rd_idxq el_sl_api_Node (ev_t rfl) (ev_t rfl) (fun _ => by omega) (fun _ => hpb)) ?_
    refine sr_rd rfl (rd_loads agg_api_Node (ev_t rfl) rfl (fun _ => hcell2.grow g)) ?_
    refine sr_pure rfl (rc_call go_syntax_Equal ev_f (args_cons (ev_t rfl) (args_cons (ev_t rfl) (args_nil))) rfl) (ih _ (kidAt_eq h3 ▸ List.getElem_mem h3) _ D _ _ D' _ (hkid1.grow g) (hkid2.grow g) (by omega)) (fun w58 g58 => ?_)
    have g := g.trans (g58)
    try have gl1 := gl1.trans (g58)
    replace B2 := B2.grow (g58)
    replace B3 := B3.grow (g58)
    refine sr_pu rfl (fun _ => rd_not (ev_t rfl)) ?_
    refine sr_sub [(2, _, _), (3, _, _), (44, _, _), (45, _, _), (59, _, _)] (sub_cons rfl (sub_cons rfl (sub_cons rfl (sub_cons rfl (sub_cons rfl (sub_nil _)))))) ?_
    refine sr_nil (hK14 _ _ ?_)
    refine sc_cond (ev_t rfl) (fun h4 => ?_) (fun h4 => ?_)
    · (try simp only [bsimp] at h4)
      refine sc_seq fun K15 hK15 => ?_
      refine sc_text [3] ?_
      refine sr_pu rfl (fun _ => rd_assign ev_c) ?_
      refine sr_sub [(2, _, _), (3, _, _), (4, _, _), (44, _, _), (45, _, _)] (sub_cons rfl (sub_cons rfl (sub_cons rfl (sub_cons rfl (sub_cons rfl (sub_nil _)))))) ?_
      refine sr_nil (hK15 _ _ ?_)
      refine sc_ret (t_ret1 rfl rfl ?_)
      refine ⟨congrArg Value.bool ?_, g⟩
      rw [he, Bool.true_and, eq_comm, List.all_eq_false]
      exact ⟨i, List.mem_range.2 h3, by simpa using h4⟩
    (try simp only [bsimp] at h4)
    refine sc_skip (hK12 _ _ ?_)
    refine sc_sub [(2, _, _), (3, _, _), (44, _, _), (45, _, _)] (sub_cons rfl (sub_cons rfl (sub_cons rfl (sub_cons rfl (sub_nil _))))) ?_
    refine sc_text [3, 3] ?_
    refine sr_pu rfl (fun _ => rd_add (ev_t rfl) ev_c (fun _ => by omega)) ?_
    refine sr_pu rfl (fun _ => rd_move (ev_t rfl)) ?_
    refine sr_sub [(45, _, _), (2, _, _), (3, _, _), (44, _, _)] (sub_cons rfl (sub_cons rfl (sub_cons rfl (sub_cons rfl (sub_nil _))))) ?_
    refine sr_nil (fun a ha => ?_)
    refine ⟨i + 1, ha, ⟨⟨h3, fun j hj => ?_⟩, gl1⟩, by omega⟩
    by_cases e : j = i
    · subst e; simpa using h4
    · exact hI1.2 j (by omega)
  (try simp only [bsimp] at h3)
  refine sc_exit rfl (hK8 _ _ ?_)
  refine sc_sub [] (sub_nil _) ?_
  refine sc_seq fun K16 hK16 => ?_
  refine sc_text [3] ?_
  refine sr_pu rfl (fun _ => rd_assign ev_c) ?_
  refine sr_nil (hK16 _ _ ?_)
  refine sc_ret (t_ret1 rfl rfl ?_)
  refine ⟨congrArg Value.bool ?_, g⟩
  rw [he, Bool.true_and, eq_comm, List.all_eq_true]
  intro j hj
  exact hI1.2 j (by have := List.mem_range.1 hj; simp only [decide_eq_false_iff_not] at h3; omega)
theorem sstrip_ok : ∀ (t : Nd) (v : Value) (D : Nat → Prop) (w : World), Kd w D t.kids v → t.kids.length ≤ 1000000 → count t ≤ 1000000 → Ret PP fn_syntax_Strip #[ndV t v] w fun r w' => RetNd (stripT t) w.heap.size r w' ∧ G w w' := by
  refine Nd.ind fun t ih v D w hk hlen hc => ?_
  obtain ⟨p, c, rfl, hcap, hks⟩ := hk
  have g := G.refl w
  refine ret_of_sc (m := 38) func_syntax_Strip rfl rfl [(0, True, _)] (sub_cons rfl (sub_nil _)) ?_
  refine sc_seq fun K1 hK1 => ?_
  refine sc_text [1, 1] ?_
  refine sr_box rfl (ev_t rfl) rfl ?_
  intro b1 w1 N1
  have l1 := N1.ge g
  have g := g.trans (N1.g)
  try have hO := hO.grow (N1.g)
  have B1 := N1.blk
  refine sr_alloc rfl ze_api_Node rfl ?_
  intro b2 w2 N2
  have x2_1 := N2.ne B1
  have l2 := N2.ge g
  have g := g.trans (N2.g)
  replace B1 := B1.grow (N2.g)
  try have hO := hO.grow (N2.g)
  have B2 := N2.blk
  refine sr_sub [(1, _, _), (2, _, _)] (sub_cons rfl (sub_cons rfl (sub_nil _))) ?_
  refine sr_nil (hK1 _ _ ?_)
  refine sc_seq fun K2 hK2 => ?_
  refine sc_text [3, 0, 3, 0, 3, 1, 2] ?_
  refine sr_pu rfl (fun _ => rd_field fo_api_Node_0 (ev_t rfl)) ?_
  refine sr_rd rfl (rd_load one_int (ev_t rfl) (fun _ => B1.at_ rfl)) ?_
  refine sr_pu rfl (fun _ => rd_field fo_api_Node_1 (ev_t rfl)) ?_
  refine sr_rd rfl (rd_load one_string (ev_t rfl) (fun _ => B1.at_ rfl)) ?_
  refine sr_pu rfl (fun _ => rd_build [_, _, _, _, _, _, _, _, _] ze_api_Node rfl pl_api_Node (parts_cons (ev_t rfl) (parts_cons (ev_t rfl) (parts_nil))) rfl) ?_
  refine sr_alloc rfl ze_api_Node rfl ?_
  intro b3 w3 N3
  have x3_1 := N3.ne B1
  have x3_2 := N3.ne B2
  have l3 := N3.ge g
  have g := g.trans (N3.g)
  replace B1 := B1.grow (N3.g)
  replace B2 := B2.grow (N3.g)
  try have hO := hO.grow (N3.g)
  have B3 := N3.blk
  refine sr_store_all rfl sz_api_Node (ev_t rfl) (ev_t rfl) rfl rfl B3 rfl rfl ?_
  intro wS1 hgS1 hzS1
  clear B3
  intro B3
  replace B1 := B1.keep hgS1 (by intro h; injection h with h; first | exact x3_1 h.symm | exact x1_3 h | omega)
  replace B2 := B2.keep hgS1 (by intro h; injection h with h; first | exact x3_2 h.symm | exact x2_3 h | omega)
  have g := g_only g hgS1 (by intro k hk; injection hk with hk; omega)
  refine sr_sub [(1, _, _), (2, _, _), (3, _, _)] (sub_cons rfl (sub_cons rfl (sub_cons rfl (sub_nil _)))) ?_
  refine sr_nil (hK2 _ _ ?_)
  refine sc_seq fun K3 hK3 => ?_
  refine sc_seq fun K4 hK4 => ?_
  refine sc_text [3, 0, 3, 3, 3, 0, 3, 3] ?_
  refine sr_pu rfl (fun _ => rd_field fo_api_Node_0 (ev_t rfl)) ?_
  refine sr_rd rfl (rd_load one_int (ev_t rfl) (fun _ => B1.at_ rfl)) ?_
  refine sr_pu rfl (fun _ => rd_eq (ev_t rfl) ev_c) ?_
  refine sr_pu rfl (fun _ => rd_move (ev_t rfl)) ?_
  refine sr_pug rfl rfl rfl (fun _ => rd_field fo_api_Node_0 (ev_t rfl)) ?_
  refine sr_rdg rfl rfl rfl (rd_load one_int (ev_u rfl id) (fun _ => B1.at_ rfl)) ?_
  refine sr_pug rfl rfl rfl (fun _ => rd_eq (ev_u rfl id) ev_c) ?_
  refine sr_pu rfl (fun _ => rd_pick_or (ev_t rfl) (ev_u rfl id)) ?_
  refine sr_sub [(1, _, _), (2, _, _), (3, _, _), (18, _, _)] (sub_cons rfl (sub_cons rfl (sub_cons rfl (sub_cons rfl (sub_nil _))))) ?_
  refine sr_nil (hK4 _ _ ?_)
  refine sc_cond (ev_t rfl) (fun h1 => ?_) (fun h1 => ?_)
  · replace h1 : countsB t = true := h1
    refine sc_text [3, 0, 3, 2] ?_
    refine sr_pu rfl (fun _ => rd_field fo_api_Node_2 (ev_t rfl)) ?_
    refine sr_rd rfl (rd_load one_int (ev_t rfl) (fun _ => B1.at_ rfl)) ?_
    refine sr_pu rfl (fun _ => rd_field fo_api_Node_2 (ev_t rfl)) ?_
    refine sr_store_one rfl sz_int (ev_t rfl) (ev_t rfl) rfl B3 rfl rfl ?_
    intro wS2 hgS2 hzS2
    clear B3
    intro B3
    replace B1 := B1.keep hgS2 (by intro h; injection h with h; first | exact x3_1 h.symm | exact x1_3 h | omega)
    replace B2 := B2.keep hgS2 (by intro h; injection h with h; first | exact x3_2 h.symm | exact x2_3 h | omega)
    have g := g_only g hgS2 (by intro k hk; injection hk with hk; omega)
    refine sr_sub [(1, _, _), (2, _, _), (3, _, _)] (sub_cons rfl (sub_cons rfl (sub_cons rfl (sub_nil _)))) ?_
    refine sr_nil (hK3 _ _ ?_)
    refine sc_seq fun K5 hK5 => ?_
    refine sc_seq fun K6 hK6 => ?_
    refine sc_text [3, 0, 3, 3] ?_
    replace B3 : Blk wS2 b3 ty_api_Node (ndCells (stripT t) (.slice none 0 0)) := by
      have h := B3
      rw [strip_cells, numS, h1]; exact h
    refine sr_pu rfl (fun _ => rd_field fo_api_Node_4 (ev_t rfl)) ?_
    refine sr_rd rfl (rd_load one_sl_api_Node (ev_t rfl) (fun _ => B1.at_ rfl)) ?_
    refine sr_pu rfl (fun _ => rd_len el_sl_api_Node (ev_t rfl)) ?_
    refine sr_pu rfl (fun _ => rd_move ev_c) ?_
    refine sr_sub [(2, _, _), (3, _, _), (23, _, _), (24, _, _), (25, _, _)] (sub_cons rfl (sub_cons rfl (sub_cons rfl (sub_cons rfl (sub_cons rfl (sub_nil _)))))) ?_
    refine sr_nil (hK6 _ _ ?_)
    refine sc_block ?_
    refine sc_loop3 (fun (i : Nat) u1 => (i ≤ t.kids.length ∧ ∃ s, Blk u1 b3 ty_api_Node (ndCells (stripT t) s) ∧ OwnK ty_api_Node (Dx w.heap.size [b1, b2, b3]) w.heap.size u1 ((t.kids.take i).map stripT) s) ∧ G w u1) _ [(2, True, _), (3, True, _), (23, True, _), (24, True, _)] (fun (i : Nat) => [(25, True, .int .i64 i)]) (fun (i : Nat) => t.kids.length - i) (0) ⟨⟨Nat.zero_le _, _, B3, ownK_nil _ _ _ _⟩, g⟩ (andE_mk (blkE B1) (andE_mk (blkE B2) (nilE_mk _))) (sub_cons rfl (sub_cons rfl (sub_cons rfl (sub_cons rfl (sub_cons rfl (sub_nil _)))))) ?_
    clear B1 B2 B3
    rintro i u1 ⟨hI1, gl1⟩ ⟨B1, B2, _⟩
    replace B1 : Blk _ _ _ _ := B1
    replace B2 : Blk _ _ _ _ := B2
    have g := gl1
    obtain ⟨hi, s, B3, hO⟩ := hI1
    obtain ⟨sa, sc, rfl⟩ := hO.slice
    refine sc_seq fun K7 hK7 => ?_
    refine sc_text [3] ?_
    refine sr_pu rfl (fun _ => rd_lt (ev_t rfl) (ev_t rfl)) ?_
    refine sr_nil (hK7 _ _ ?_)
    refine sc_sub [(2, _, _), (3, _, _), (23, _, _), (24, _, _), (25, _, _), (26, _, _)] (sub_cons rfl (sub_cons rfl (sub_cons rfl (sub_cons rfl (sub_cons rfl (sub_cons rfl (sub_nil _))))))) ?_
    refine sc_seq fun K8 hK8 => ?_
    refine sc_cond (ev_t rfl) (fun h2 => ?_) (fun h2 => ?_)
    · replace h2 : i < t.kids.length := by simp only [decide_eq_true_eq] at h2; omega
      obtain ⟨b, o, rfl, hD, xs, hR, hX⟩ := hks (by omega)
      obtain ⟨p', c', hcell, hkid⟩ := kd_at hR hX h2
      have hck := count_kid h2
      have hkl := kids_le t.kids[i]
      have hu := g.size
      have hO := hO.low
      refine sc_skip (hK8 _ _ ?_)
      refine sc_sub [(2, _, _), (3, _, _), (23, _, _), (24, _, _), (25, _, _)] (sub_cons rfl (sub_cons rfl (sub_cons rfl (sub_cons rfl (sub_cons rfl (sub_nil _)))))) ?_
      refine sc_seq fun K9 hK9 => ?_
      refine sc_block ?_
      refine sc_seq fun K10 hK10 => ?_
      refine sc_text [3, 0, 1, 2] ?_
      refine sr_pu rfl (fun _ => rd_idx el_sl_api_Node (ev_t rfl) (ev_t rfl) (fun _ => by omega)) ?_
      refine sr_rd rfl (rd_loads agg_api_Node (ev_t rfl) rfl (fun _ => hcell.grow g)) ?_
      refine sr_alloc rfl ze_api_Node rfl ?_
      intro b5 w5 N5
      have x5_1 := N5.ne B1
      have x5_2 := N5.ne B2
      have x5_3 := N5.ne B3
      have l5 := N5.ge g
      have g := g.trans (N5.g)
      replace B1 := B1.grow (N5.g)
      replace B2 := B2.grow (N5.g)
      replace B3 := B3.grow (N5.g)
      try have hO := hO.grow (N5.g)
      have B5 := N5.blk
      refine sr_store_all rfl sz_api_Node (ev_t rfl) (ev_t rfl) rfl rfl B5 rfl rfl ?_
      intro wS3 hgS3 hzS3
      clear B5
      intro B5
      replace B1 := B1.keep hgS3 (by intro h; injection h with h; first | exact x5_1 h.symm | exact x1_5 h | omega)
      replace B2 := B2.keep hgS3 (by intro h; injection h with h; first | exact x5_2 h.symm | exact x2_5 h | omega)
      replace B3 := B3.keep hgS3 (by intro h; injection h with h; first | exact x5_3 h.symm | exact x3_5 h | omega)
      have g := g_only g hgS3 (by intro k hk; injection hk with hk; omega)
      have hO := (hO.keep hgS3 (fun h => by have := N5.ge (G.refl _); have := h.2; omega)).mono fun b h => h.1
      refine sr_sub [(2, _, _), (3, _, _), (5, _, _), (23, _, _), (24, _, _), (25, _, _)] (sub_cons rfl (sub_cons rfl (sub_cons rfl (sub_cons rfl (sub_cons rfl (sub_cons rfl (sub_nil _))))))) ?_
      refine sr_nil (hK10 _ _ ?_)
      refine sc_draw [3, 0, 0, 1, 1, 2, 3, 2] [true, true, true, true, true, true, true, true] [0, 1, 0, 4, 12, 31, 63, 127] mix (by kernel_rfl) ?_
      have g := g.trans (G.drew _)
      replace B1 := B1.grow (G.drew _)
      replace B2 := B2.grow (G.drew _)
      replace B3 := B3.grow (G.drew _)
      replace B5 := B5.grow (G.drew _)
      try have hO := hO.grow (G.drew _)
      have hB1lt := B1.lt
      have hB2lt := B2.lt
      have hB3lt := B3.lt
      have hOlt := hO.lt
      have hdz : wS3.drew.drew.heap.size = wS3.drew.heap.size := rfl
      refine sr_pu rfl (fun _ => rd_field fo_api_Node_4 (ev_t rfl)) ?_
      refine sr_rd rfl (rd_load one_sl_api_Node (ev_t rfl) (fun _ => B3.at_ rfl)) ?_
      refine sr_rd rfl (rd_loads agg_api_Node (ev_t rfl) rfl (fun _ => B5.row)) ?_
      refine sr_call rfl (rc_call go_syntax_Strip ev_f (args_cons (ev_t rfl) (args_nil)) rfl) (ih _ (List.getElem_mem h2) _ _ _ (hkid.grow g) (by omega) (by omega)) ?_
      rintro v32 w32 ⟨⟨p2, c2, rfl, hk2⟩, g32⟩
      refine ⟨fun _ => g32, ?_⟩
      have g := g.trans g32
      replace B1 := B1.grow (g32)
      replace B2 := B2.grow (g32)
      replace B3 := B3.grow (g32)
      replace B5 := B5.grow (g32)
      try have hO := hO.grow (g32)
      refine sr_buildSlice [_, _, _, _, _, _, _, _, _] rfl el_sl_api_Node ze_api_Node (parts_cons (ev_t rfl) (parts_nil)) rfl rfl ?_
      intro b33 w33 N33
      have x33_1 := N33.ne B1
      have x33_2 := N33.ne B2
      have x33_3 := N33.ne B3
      have x33_5 := N33.ne B5
      have l33 := N33.ge g
      have g := g.trans (N33.g)
      replace B1 := B1.grow (N33.g)
      replace B2 := B2.grow (N33.g)
      replace B3 := B3.grow (N33.g)
      replace B5 := B5.grow (N33.g)
      try have hO := hO.grow (N33.g)
      have B33 := N33.blk
      have hk2 := hk2.grow N33.g
      have hOo := hO
      refine sr_appendK rfl el_sl_api_Node ze_api_Node rfl (ev_t rfl) hO (ev_t rfl) rfl B33.row (krow_one (hk2.mono fun k hk _ => ⟨⟨by have hk : _ ≤ k := hk; omega, by have hk : _ ≤ k := hk; simp; omega⟩, fun he => by have := hOlt k he.symm; have hk : _ ≤ k := hk; omega⟩)) (by simp; omega) (by have := g.size; omega) ⟨by have := g.size; omega, by have q1 := B1.lt; have q2 := B2.lt; have q3 := B3.lt; simp; omega⟩ ?_
      intro a34 c34 w34 hO hg34
      replace B1 := B1.keep hg34 (hOo.ne (by simp [Dx]))
      replace B2 := B2.keep hg34 (hOo.ne (by simp [Dx]))
      replace B3 := B3.keep hg34 (hOo.ne (by simp [Dx]))
      have g := g_only g hg34 (fun k hk => hOo.ge k hk)
      refine sr_pu rfl (fun _ => rd_field fo_api_Node_4 (ev_t rfl)) ?_
      refine sr_store_one rfl sz_sl_api_Node (ev_t rfl) (ev_t rfl) rfl B3 rfl rfl ?_
      intro wS4 hgS4 hzS4
      clear B3
      intro B3
      replace B1 := B1.keep hgS4 (by intro h; injection h with h; first | exact x3_1 h.symm | exact x1_3 h | omega)
      replace B2 := B2.keep hgS4 (by intro h; injection h with h; first | exact x3_2 h.symm | exact x2_3 h | omega)
      have g := g_only g hgS4 (by intro k hk; injection hk with hk; omega)
      have hO := hO.keep hgS4 (by simp [Dx])
      refine sr_sub [(2, _, _), (3, _, _), (23, _, _), (24, _, _), (25, _, _)] (sub_cons rfl (sub_cons rfl (sub_cons rfl (sub_cons rfl (sub_cons rfl (sub_nil _)))))) ?_
      refine sr_nil (hK9 _ _ ?_)
      refine sc_text [3, 3] ?_
      refine sr_pu rfl (fun _ => rd_add (ev_t rfl) ev_c (fun _ => by omega)) ?_
      refine sr_pu rfl (fun _ => rd_move (ev_t rfl)) ?_
      refine sr_sub [(25, _, _), (2, _, _), (3, _, _), (23, _, _), (24, _, _)] (sub_cons rfl (sub_cons rfl (sub_cons rfl (sub_cons rfl (sub_cons rfl (sub_nil _)))))) ?_
      refine sr_nil (fun a ha => ?_)
      exact ⟨i + 1, ha, ⟨⟨h2, _, B3, by rw [take_step h2, List.map_append]; exact hO⟩, g⟩, (andE_mk (blkE B1) (andE_mk (blkE B2) (nilE_mk _))), by omega⟩
    replace h2 : i = t.kids.length := by simp only [decide_eq_false_iff_not] at h2; omega
    subst h2
    rw [List.take_length] at hO B3
    refine sc_exit rfl (hK5 _ _ ?_)
    refine sc_sub [(2, _, _), (3, _, _)] (sub_cons rfl (sub_cons rfl (sub_nil _))) ?_
    refine sc_seq fun K11 hK11 => ?_
    refine sc_text [0, 2] ?_
    refine sr_rd rfl (rd_loads agg_api_Node (ev_t rfl) rfl (fun _ => B3.row)) ?_
    refine sr_store_all rfl sz_api_Node (ev_t rfl) (ev_t rfl) rfl rfl B2 rfl rfl ?_
    intro wS5 hgS5 hzS5
    clear B2
    intro B2
    replace B1 := B1.keep hgS5 (by intro h; injection h with h; first | exact x2_1 h.symm | exact x1_2 h | omega)
    replace B3 := B3.keep hgS5 (by intro h; injection h with h; first | exact x2_3 h.symm | exact x3_2 h | omega)
    have g := g_only g hgS5 (by intro k hk; injection hk with hk; omega)
    have hO := hO.keep hgS5 (by simp [Dx])
    refine sr_nil (hK11 _ _ ?_)
    refine sc_ret (t_retv1 rfl (evr_c rfl agg_api_Node rfl (by first | exact B1.row | exact B2.row | exact B3.row) (evr_nil)) ?_)
    exact ⟨retNd_kd (by rw [strip_kids]; exact hO.kd fun b hb => hb.1), g⟩
  replace h1 : countsB t = false := h1
  refine sc_skip (hK3 _ _ ?_)
  refine sc_sub [(1, _, _), (2, _, _), (3, _, _)] (sub_cons rfl (sub_cons rfl (sub_cons rfl (sub_nil _)))) ?_
  refine sc_seq fun K5 hK5 => ?_
  refine sc_seq fun K6 hK6 => ?_
  refine sc_text [3, 0, 3, 3] ?_
  replace B3 : Blk wS1 b3 ty_api_Node (ndCells (stripT t) (.slice none 0 0)) := by
    have h := B3
    rw [strip_cells, numS, h1]; exact h
  refine sr_pu rfl (fun _ => rd_field fo_api_Node_4 (ev_t rfl)) ?_
  refine sr_rd rfl (rd_load one_sl_api_Node (ev_t rfl) (fun _ => B1.at_ rfl)) ?_
  refine sr_pu rfl (fun _ => rd_len el_sl_api_Node (ev_t rfl)) ?_
  refine sr_pu rfl (fun _ => rd_move ev_c) ?_
  refine sr_sub [(2, _, _), (3, _, _), (23, _, _), (24, _, _), (25, _, _)] (sub_cons rfl (sub_cons rfl (sub_cons rfl (sub_cons rfl (sub_cons rfl (sub_nil _)))))) ?_
  refine sr_nil (hK6 _ _ ?_)
  refine sc_block ?_
  refine sc_loop3 (fun (i : Nat) u1 => (i ≤ t.kids.length ∧ ∃ s, Blk u1 b3 ty_api_Node (ndCells (stripT t) s) ∧ OwnK ty_api_Node (Dx w.heap.size [b1, b2, b3]) w.heap.size u1 ((t.kids.take i).map stripT) s) ∧ G w u1) _ [(2, True, _), (3, True, _), (23, True, _), (24, True, _)] (fun (i : Nat) => [(25, True, .int .i64 i)]) (fun (i : Nat) => t.kids.length - i) (0) ⟨⟨Nat.zero_le _, _, B3, ownK_nil _ _ _ _⟩, g⟩ (andE_mk (blkE B1) (andE_mk (blkE B2) (nilE_mk _))) (sub_cons rfl (sub_cons rfl (sub_cons rfl (sub_cons rfl (sub_cons rfl (sub_nil _)))))) ?_
  clear B1 B2 B3
  rintro i u1 ⟨hI1, gl1⟩ ⟨B1, B2, _⟩
  replace B1 : Blk _ _ _ _ := B1
  replace B2 : Blk _ _ _ _ := B2
  have g := gl1
  obtain ⟨hi, s, B3, hO⟩ := hI1
  obtain ⟨sa, sc, rfl⟩ := hO.slice
  refine sc_seq fun K7 hK7 => ?_
  refine sc_text [3] ?_
  refine sr_pu rfl (fun _ => rd_lt (ev_t rfl) (ev_t rfl)) ?_
  refine sr_nil (hK7 _ _ ?_)
  refine sc_sub [(2, _, _), (3, _, _), (23, _, _), (24, _, _), (25, _, _), (26, _, _)] (sub_cons rfl (sub_cons rfl (sub_cons rfl (sub_cons rfl (sub_cons rfl (sub_cons rfl (sub_nil _))))))) ?_
  refine sc_seq fun K8 hK8 => ?_
  refine sc_cond (ev_t rfl) (fun h2 => ?_) (fun h2 => ?_)
  · replace h2 : i < t.kids.length := by simp only [decide_eq_true_eq] at h2; omega
    obtain ⟨b, o, rfl, hD, xs, hR, hX⟩ := hks (by omega)
    obtain ⟨p', c', hcell, hkid⟩ := kd_at hR hX h2
    have hck := count_kid h2
    have hkl := kids_le t.kids[i]
    have hu := g.size
    have hO := hO.low
    refine sc_skip (hK8 _ _ ?_)
    refine sc_sub [(2, _, _), (3, _, _), (23, _, _), (24, _, _), (25, _, _)] (sub_cons rfl (sub_cons rfl (sub_cons rfl (sub_cons rfl (sub_cons rfl (sub_nil _)))))) ?_
    refine sc_seq fun K9 hK9 => ?_
    refine sc_block ?_
    refine sc_seq fun K10 hK10 => ?_
    refine sc_text [3, 0, 1, 2] ?_
    refine sr_pu rfl (fun _ => rd_idx el_sl_api_Node (ev_t rfl) (ev_t rfl) (fun _ => by omega)) ?_
    refine sr_rd rfl (rd_loads agg_api_Node (ev_t rfl) rfl (fun _ => hcell.grow g)) ?_
    refine sr_alloc rfl ze_api_Node rfl ?_
    intro b5 w5 N5
    have x5_1 := N5.ne B1
    have x5_2 := N5.ne B2
    have x5_3 := N5.ne B3
    have l5 := N5.ge g
    have g := g.trans (N5.g)
    replace B1 := B1.grow (N5.g)
    replace B2 := B2.grow (N5.g)
    replace B3 := B3.grow (N5.g)
    try have hO := hO.grow (N5.g)
    have B5 := N5.blk
    refine sr_store_all rfl sz_api_Node (ev_t rfl) (ev_t rfl) rfl rfl B5 rfl rfl ?_
    intro wS2 hgS2 hzS2
    clear B5
    intro B5
    replace B1 := B1.keep hgS2 (by intro h; injection h with h; first | exact x5_1 h.symm | exact x1_5 h | omega)
    replace B2 := B2.keep hgS2 (by intro h; injection h with h; first | exact x5_2 h.symm | exact x2_5 h | omega)
    replace B3 := B3.keep hgS2 (by intro h; injection h with h; first | exact x5_3 h.symm | exact x3_5 h | omega)
    have g := g_only g hgS2 (by intro k hk; injection hk with hk; omega)
    have hO := (hO.keep hgS2 (fun h => by have := N5.ge (G.refl _); have := h.2; omega)).mono fun b h => h.1
    refine sr_sub [(2, _, _), (3, _, _), (5, _, _), (23, _, _), (24, _, _), (25, _, _)] (sub_cons rfl (sub_cons rfl (sub_cons rfl (sub_cons rfl (sub_cons rfl (sub_cons rfl (sub_nil _))))))) ?_
    refine sr_nil (hK10 _ _ ?_)
    refine sc_draw [3, 0, 0, 1, 1, 2, 3, 2] [true, true, true, true, true, true, true, true] [0, 1, 0, 4, 12, 31, 63, 127] mix (by kernel_rfl) ?_
    have g := g.trans (G.drew _)
    replace B1 := B1.grow (G.drew _)
    replace B2 := B2.grow (G.drew _)
    replace B3 := B3.grow (G.drew _)
    replace B5 := B5.grow (G.drew _)
    try have hO := hO.grow (G.drew _)
    have hB1lt := B1.lt
    have hB2lt := B2.lt
    have hB3lt := B3.lt
    have hOlt := hO.lt
    have hdz : wS2.drew.drew.heap.size = wS2.drew.heap.size := rfl
    refine sr_pu rfl (fun _ => rd_field fo_api_Node_4 (ev_t rfl)) ?_
    refine sr_rd rfl (rd_load one_sl_api_Node (ev_t rfl) (fun _ => B3.at_ rfl)) ?_
    refine sr_rd rfl (rd_loads agg_api_Node (ev_t rfl) rfl (fun _ => B5.row)) ?_
    refine sr_call rfl (rc_call go_syntax_Strip ev_f (args_cons (ev_t rfl) (args_nil)) rfl) (ih _ (List.getElem_mem h2) _ _ _ (hkid.grow g) (by omega) (by omega)) ?_
    rintro v32 w32 ⟨⟨p2, c2, rfl, hk2⟩, g32⟩
    refine ⟨fun _ => g32, ?_⟩
    have g := g.trans g32
    replace B1 := B1.grow (g32)
    replace B2 := B2.grow (g32)
    replace B3 := B3.grow (g32)
    replace B5 := B5.grow (g32)
    try have hO := hO.grow (g32)
    refine sr_buildSlice [_, _, _, _, _, _, _, _, _] rfl el_sl_api_Node ze_api_Node (parts_cons (ev_t rfl) (parts_nil)) rfl rfl ?_
    intro b33 w33 N33
    have x33_1 := N33.ne B1
    have x33_2 := N33.ne B2
    have x33_3 := N33.ne B3
    have x33_5 := N33.ne B5
    have l33 := N33.ge g
    have g := g.trans (N33.g)
    replace B1 := B1.grow (N33.g)
    replace B2 := B2.grow (N33.g)
    replace B3 := B3.grow (N33.g)
    replace B5 := B5.grow (N33.g)
    try have hO := hO.grow (N33.g)
    have B33 := N33.blk
    have hk2 := hk2.grow N33.g
    have hOo := hO
    refine sr_appendK rfl el_sl_api_Node ze_api_Node rfl (ev_t rfl) hO (ev_t rfl) rfl B33.row (krow_one (hk2.mono fun k hk _ => ⟨⟨by have hk : _ ≤ k := hk; omega, by have hk : _ ≤ k := hk; simp; omega⟩, fun he => by have := hOlt k he.symm; have hk : _ ≤ k := hk; omega⟩)) (by simp; omega) (by have := g.size; omega) ⟨by have := g.size; omega, by have q1 := B1.lt; have q2 := B2.lt; have q3 := B3.lt; simp; omega⟩ ?_
    intro a34 c34 w34 hO hg34
    replace B1 := B1.keep hg34 (hOo.ne (by simp [Dx]))
    replace B2 := B2.keep hg34 (hOo.ne (by simp [Dx]))
    replace B3 := B3.keep hg34 (hOo.ne (by simp [Dx]))
    have g := g_only g hg34 (fun k hk => hOo.ge k hk)
    refine sr_pu rfl (fun _ => rd_field fo_api_Node_4 (ev_t rfl)) ?_
    refine sr_store_one rfl sz_sl_api_Node (ev_t rfl) (ev_t rfl) rfl B3 rfl rfl ?_
    intro wS3 hgS3 hzS3
    clear B3
    intro B3
    replace B1 := B1.keep hgS3 (by intro h; injection h with h; first | exact x3_1 h.symm | exact x1_3 h | omega)
    replace B2 := B2.keep hgS3 (by intro h; injection h with h; first | exact x3_2 h.symm | exact x2_3 h | omega)
    have g := g_only g hgS3 (by intro k hk; injection hk with hk; omega)
    have hO := hO.keep hgS3 (by simp [Dx])
    refine sr_sub [(2, _, _), (3, _, _), (23, _, _), (24, _, _), (25, _, _)] (sub_cons rfl (sub_cons rfl (sub_cons rfl (sub_cons rfl (sub_cons rfl (sub_nil _)))))) ?_
    refine sr_nil (hK9 _ _ ?_)
    refine sc_text [3, 3] ?_
    refine sr_pu rfl (fun _ => rd_add (ev_t rfl) ev_c (fun _ => by omega)) ?_
    refine sr_pu rfl (fun _ => rd_move (ev_t rfl)) ?_
    refine sr_sub [(25, _, _), (2, _, _), (3, _, _), (23, _, _), (24, _, _)] (sub_cons rfl (sub_cons rfl (sub_cons rfl (sub_cons rfl (sub_cons rfl (sub_nil _)))))) ?_
    refine sr_nil (fun a ha => ?_)
    exact ⟨i + 1, ha, ⟨⟨h2, _, B3, by rw [take_step h2, List.map_append]; exact hO⟩, g⟩, (andE_mk (blkE B1) (andE_mk (blkE B2) (nilE_mk _))), by omega⟩
  replace h2 : i = t.kids.length := by simp only [decide_eq_false_iff_not] at h2; omega
  subst h2
  rw [List.take_length] at hO B3
  refine sc_exit rfl (hK5 _ _ ?_)
  refine sc_sub [(2, _, _), (3, _, _)] (sub_cons rfl (sub_cons rfl (sub_nil _))) ?_
  refine sc_seq fun K11 hK11 => ?_
  refine sc_text [0, 2] ?_
  refine sr_rd rfl (rd_loads agg_api_Node (ev_t rfl) rfl (fun _ => B3.row)) ?_
  refine sr_store_all rfl sz_api_Node (ev_t rfl) (ev_t rfl) rfl rfl B2 rfl rfl ?_
  intro wS4 hgS4 hzS4
  clear B2
  intro B2
  replace B1 := B1.keep hgS4 (by intro h; injection h with h; first | exact x2_1 h.symm | exact x1_2 h | omega)
  replace B3 := B3.keep hgS4 (by intro h; injection h with h; first | exact x2_3 h.symm | exact x3_2 h | omega)
  have g := g_only g hgS4 (by intro k hk; injection hk with hk; omega)
  have hO := hO.keep hgS4 (by simp [Dx])
  refine sr_nil (hK11 _ _ ?_)
  refine sc_ret (t_retv1 rfl (evr_c rfl agg_api_Node rfl (by first | exact B1.row | exact B2.row | exact B3.row) (evr_nil)) ?_)
  exact ⟨retNd_kd (by rw [strip_kids]; exact hO.kd fun b hb => hb.1), g⟩
end Go.Rk
namespace Go.Rk
open Go Go.RowKit
set_option linter.unusedVariables false
/-! frames without their deferred calls -/
def wd (ds : List Deferred) (a : Act) : Act := { a with defers := ds }
theorem wd_put (ds : List Deferred) (a : Act) (d : Option Tmp) (v : Value) : (wd ds a).put d v = wd ds (a.put d v) := by cases d <;> rfl
theorem wd_self (a : Act) : wd a.defers (wd [] a) = a := by cases a; rfl
theorem wd_strip {a : Act} (h : a.defers = []) (ds : List Deferred) : wd [] (wd ds a) = a := by cases a; cases h; rfl
theorem Kn.strip {n : Nat} {σ : List Ent} {a : Act} (h : Kn n σ a) (ds : List Deferred) : wd [] (wd ds a) = a := wd_strip h.2.1 ds
theorem put_defers (a : Act) (d : Option Tmp) (v : Value) : (a.put d v).defers = a.defers := by cases d <;> rfl
/-- What is asked of a frame with its deferred calls. -/
abbrev DPost := List Deferred → Act → World → Prop
def onD (N : DPost) (a : Act) (w : World) : Prop := N a.defers (wd [] a) w
theorem RS.wd {P : Program} {Z : List PanicEntry → DPost} {ops : Array Oper} {cl : Nat → Nat} {lv : Nat → Bool} {W0 : World} {N : DPost} (ds : List Deferred) : ∀ (L : List Nat) (a : Act) (w : World), a.defers = [] →
    RS P (fun ch a w => Z ch ds a w) ops cl lv W0 (N ds) L a w → RS P (fun ch => onD (Z ch)) ops cl lv W0 (onD N) L (wd ds a) w
  | [], a, w, h0, h => by
    show N ds (Go.Rk.wd [] (Go.Rk.wd ds a)) w
    rw [wd_strip h0]; exact h
  | i :: rest, a, w, h0, ⟨o, ho, hb⟩ => by
    refine ⟨o, ho, ?_⟩
    by_cases hc : cl i = 0 ∨ cl i = 3
    · rw [if_pos hc] at hb ⊢
      obtain ⟨v, h1, h2, h3⟩ := hb
      refine ⟨v, h1, h2, ?_⟩
      rw [wd_put]; exact RS.wd ds rest _ _ ((put_defers a o.dst v).trans h0) h3
    · rw [if_neg hc] at hb ⊢
      by_cases hw : Region.wanted o (yielded ops a.tmps) = true
      · rw [if_pos hw] at hb
        refine (if_pos (show Region.wanted o (yielded ops (Go.Rk.wd ds a).tmps) = true from hw)).mpr ?_
        refine Eff.turn (a := a) (b := Go.Rk.wd ds a) rfl (fun ch w' hz => ?_) (fun v w' _ hk => ?_) hb
        · show Z ch ds (Go.Rk.wd [] (Go.Rk.wd ds a)) w'
          rw [wd_strip h0]; exact hz
        · rw [wd_put]; exact RS.wd ds rest _ _ ((put_defers a o.dst v).trans h0) hk
      · rw [if_neg hw] at hb
        refine (if_neg (show ¬ Region.wanted o (yielded ops (Go.Rk.wd ds a).tmps) = true from hw)).mpr ?_
        rw [wd_put]; exact RS.wd ds rest _ _ ((put_defers a o.dst undef).trans h0) hb
theorem RT.wd {P : Program} {Z : List PanicEntry → DPost} {ops : Array Oper} {cl : Nat → Nat} {wt : Nat → Nat → Bool} {row : Option Nat} {N : DPost} (ds : List Deferred) : ∀ (m : Nat) (L : List Nat) (a : Act) (w : World), a.defers = [] →
    RT P (fun ch a w => Z ch ds a w) ops cl wt row (N ds) m L a w → RT P (fun ch => onD (Z ch)) ops cl wt row (onD N) m L (wd ds a) w
  | 0, L, a, w, h0, h => ⟨h.1, by
    show N ds (Go.Rk.wd [] (Go.Rk.wd ds a)) w
    rw [wd_strip h0]; exact h.2⟩
  | m + 1, L, a, w, h0, .inl ⟨r, hr, hav, hc, o, ho, v, h1, h2, h3⟩ => .inl ⟨r, hr, hav, hc, o, ho, v, h1, h2, by
    rw [wd_put]; exact RT.wd ds m _ _ _ ((put_defers a o.dst v).trans h0) h3⟩
  | m + 1, L, a, w, h0, .inr ⟨hno, hall⟩ => .inr ⟨hno, fun j hj hav => by
    obtain ⟨o, ho, hb⟩ := hall j hj hav
    refine ⟨o, ho, ?_⟩
    by_cases hw : Region.wanted o (yielded ops a.tmps) = true
    · rw [if_pos hw] at hb
      refine (if_pos (show Region.wanted o (yielded ops (Go.Rk.wd ds a).tmps) = true from hw)).mpr ?_
      refine EffQ.turn (a := a) (b := Go.Rk.wd ds a) rfl (fun ch w' hz => ?_) (fun v w' _ hk => ?_) hb
      · show Z ch ds (Go.Rk.wd [] (Go.Rk.wd ds a)) w'
        rw [wd_strip h0]; exact hz
      · rw [wd_put]; exact RT.wd ds m _ _ _ ((put_defers a o.dst v).trans h0) hk
    · rw [if_neg hw] at hb
      refine (if_neg (show ¬ Region.wanted o (yielded ops (Go.Rk.wd ds a).tmps) = true from hw)).mpr ?_
      rw [wd_put]; exact RT.wd ds m _ _ _ ((put_defers a o.dst undef).trans h0) hb⟩
/-- What is asked where a piece of code ends. -/
def QofD (N : DPost) (X : List (Nat × DPost)) (T : DPost) (Z : List PanicEntry → DPost) : Exit → Act → World → Prop
  | .normal, a, w => onD N a w
  | .ret, a, w => onD T a w
  | .exit id, a, w => match X.lookup id with | some k => onD k a w | none => False
  | .panic ch, a, w => onD (Z ch) a w
  | _, _, _ => False
def SCD (P : Program) (ρ : Option Nat) (n : Nat) (ds : List Deferred) (c : Code) (N : DPost) (X : List (Nat × DPost)) (T : DPost) (Z : List PanicEntry → DPost) (σ : List Ent) (w : World) : Prop :=
  ∀ a, Kn n σ a → c.wpIn (WF ρ) 0 P (QofD N X T Z) (wd ds a) w
section
variable {P : Program} {ρ : Option Nat} {n : Nat} {ds : List Deferred} {N T : DPost} {X : List (Nat × DPost)} {Z : List PanicEntry → DPost} {σ : List Ent} {w : World}
theorem scd_sub {c : Code} (τ : List Ent) (hs : Sub τ σ) (h : SCD P ρ n ds c N X T Z τ w) : SCD P ρ n ds c N X T Z σ w := fun a ha => h a (ha.sub hs)
theorem scd_seq {x y : Code} (h : ∀ K : DPost, (∀ ds τ u, SCD P ρ n ds y N X T Z τ u → ∀ a, Kn n τ a → K ds a u) → SCD P ρ n ds x K X T Z σ w) : SCD P ρ n ds (.seq x y) N X T Z σ w := fun a ha => by
  refine wpIn_seq (wpIn_mono (h (fun ds a w => y.wpIn (WF ρ) 0 P (QofD N X T Z) (wd ds a) w) (fun ds τ u hy a ha => hy a ha) a ha) (fun e a w q => ?_))
  cases e with
  | normal =>
    have q : y.wpIn (WF ρ) 0 P (QofD N X T Z) (wd a.defers (wd [] a)) w := q
    rw [wd_self] at q; exact q
  | _ => exact q
theorem scd_skip (h : ∀ a, Kn n σ a → N ds a w) : SCD P ρ n ds .skip N X T Z σ w := fun a ha => wpIn_skip (show N ds (wd [] (wd ds a)) w by rw [ha.strip]; exact h a ha)
theorem scd_ret (h : ∀ a, Kn n σ a → T ds a w) : SCD P ρ n ds .ret N X T Z σ w := fun a ha => wpIn_ret (show T ds (wd [] (wd ds a)) w by rw [ha.strip]; exact h a ha)
theorem scd_exit {id : Nat} {k : DPost} (hk : X.lookup id = some k) (h : ∀ a, Kn n σ a → k ds a w) : SCD P ρ n ds (.exit id) N X T Z σ w := fun a ha => wpIn_exit (by
  show match X.lookup id with | some k => onD k (wd ds a) w | none => False
  rw [hk]
  show k ds (wd [] (wd ds a)) w
  rw [ha.strip]; exact h a ha)
theorem scd_block {id : Nat} {c : Code} (h : SCD P ρ n ds c N ((id, N) :: X) T Z σ w) : SCD P ρ n ds (.block id c) N X T Z σ w := fun a ha => by
  refine wpIn_block (wpIn_mono (h a ha) (fun e a w q => ?_))
  cases e with
  | exit id' =>
    simp only [Exit.inBlock]
    by_cases he : id' = id
    · subst he
      rw [if_pos rfl]
      simpa [QofD, List.lookup] using q
    · rw [if_neg he]
      simp only [QofD] at q ⊢
      rw [List.lookup_cons] at q
      have : (id' == id) = false := by simpa using he
      rw [this] at q
      exact q
  | _ => exact q
theorem scd_cond {x : Operand} {b : Bool} {p q : Code} (hx : Ev n σ True x (.bool b)) (h1 : b = true → SCD P ρ n ds p N X T Z σ w) (h2 : b = false → SCD P ρ n ds q N X T Z σ w) : SCD P ρ n ds (.cond x p q) N X T Z σ w := fun a ha =>
  wpIn_cond_split (show (wd ds a).eval x = .bool b from hx a ha trivial) (fun h => h1 h a ha) (fun h => h2 h a ha)
/-- A region in the order of the text. -/
theorem scd_text {id : Nat} {l : List Oper} (cl : List Nat) (h : SR P (fun ch a w => Z ch ds a w) l cl [] w n (N ds) 0 l σ w) : SCD P ρ n ds (.region id l.toArray false) N X T Z σ w := fun a ha => by
  have h1 := h (fun j o ho => by simpa using ho) a ha
  have e : lvOf [] = fun _ => true := by funext i; simp [lvOf]
  rw [e] at h1
  have h2 := RS.wd (Z := Z) (N := N) ds _ a w ha.2.1 h1
  rw [show List.range' 0 l.length = List.range l.toArray.size by rw [List.range_eq_range']; simp] at h2
  exact wpIn_text (Z := fun ch => onD (Z ch)) (fun ch a w h => h) h2
/-- A region that draws its order, no panics. -/
theorem scd_draw {id : Nat} {l : List Oper} (cl : List Nat) (lv : List Bool) (ms : List Nat) (hm : P.follows .mixedOrders = true) (hok : okB l cl lv ms = true)
    (h : SR P NoP l cl lv w.drew n (N ds) 0 l σ w.drew) : SCD P ρ n ds (.region id l.toArray true) N X T Z σ w := fun a ha => by
  have h1 := h (fun j o ho => by simpa using ho) a ha
  have h2 := RS.wd (Z := fun _ _ _ _ => False) (N := N) ds _ a w.drew ha.2.1 h1
  rw [show List.range' 0 l.length = List.range l.toArray.size by rw [List.range_eq_range']; simp] at h2
  exact wpIn_draw (Z := fun ch => onD (fun _ _ _ => False)) (fun _ _ _ h => h) (okay_of hok) hm h2
/-- A loop: what holds at its head is a relation I of a state α, whose slots are σf, whose deferred calls are df. -/
theorem scd_loopD {c : Code} {α : Type} (I : α → World → Prop) (σf : α → List Ent) (df : α → List Deferred) (μ : α → Nat) (x0 : α) (h0 : I x0 w) (hd : df x0 = ds) (hs : Sub (σf x0) σ)
    (round : ∀ x w, I x w → SCD P ρ n (df x) c (fun ds' a' w' => ∃ y, df y = ds' ∧ Kn n (σf y) a' ∧ I y w' ∧ μ y < μ x) X T Z (σf x) w) : SCD P ρ n ds (.loop c) N X T Z σ w := fun a ha => by
  intro b k cs hro hb hr
  have key : ∀ m x a w, μ x = m → Kn n (σf x) a → I x w →
      ∃ e a' w', QofD N X T Z e a' w' ∧ ArrivesIn (Machine.fenced P (WF ρ)) P (lone (b.atR (wd (df x) a) (.code c :: .inLoop c :: k)) cs w) b k cs e a' w' := by
    intro m
    induction m using Nat.strongRecOn with
    | _ m ih =>
      intro x a w hm hk hI
      obtain ⟨e, a₁, w₁, hq, harr⟩ := round x w hI a hk b (.inLoop c :: k) cs hro hb hr
      cases e with
      | normal =>
        obtain ⟨y, hd1, hk1, hI1, hlt⟩ := hq
        obtain ⟨e₂, a₂, w₂, hq₂, harr₂⟩ := ih (μ y) (hm ▸ hlt) y _ w₁ rfl hk1 hI1
        rw [hd1, wd_self] at harr₂
        exact ⟨e₂, a₂, w₂, hq₂, .of_steps (StepsIn.trans harr (.one (fenced_calm hb hr rfl) stepR_inLoop)) harr₂⟩
      | exit id => exact ⟨.exit id, a₁, w₁, hq, .pass (x := .inLoop c) rfl (fun _ _ => .inl (by simp)) harr⟩
      | goto l => exact hq.elim
      | ret => exact ⟨.ret, a₁, w₁, hq, .pass (x := .inLoop c) rfl (fun _ _ => .inl (by simp)) harr⟩
      | panic ch => exact ⟨.panic ch, a₁, w₁, hq, .pass (x := .inLoop c) rfl (fun _ _ => .inl (by simp)) harr⟩
      | outgrown => exact hq.elim
  obtain ⟨e, a', w', hq, harr⟩ := key _ x0 a w rfl (ha.sub hs) h0
  rw [hd] at harr
  exact ⟨e, a', w', hq, .of_steps (.one (fenced_calm hb hr rfl) stepR_loop) harr⟩
theorem scd_loop2 {c : Code} {α : Type} (I : α → World → Prop) (σc : List Ent) (σf : α → List Ent) (μ : α → Nat) (x0 : α) (h0 : I x0 w) (hs : Sub (σf x0 ++ σc) σ)
    (round : ∀ x w, I x w → SCD P ρ n ds c (fun ds' a' w' => ds' = ds ∧ ∃ y, Kn n (σf y ++ σc) a' ∧ I y w' ∧ μ y < μ x) X T Z (σf x ++ σc) w) : SCD P ρ n ds (.loop c) N X T Z σ w := by
  refine scd_loopD I (fun x => σf x ++ σc) (fun _ => ds) μ x0 h0 rfl hs fun x w h => fun a ha => wpIn_mono (round x w h a ha) (fun e a w q => ?_)
  cases e with
  | normal => obtain ⟨q1, y, q2⟩ := q; exact ⟨y, q1.symm, q2⟩
  | _ => exact q
end
/-! calls that may panic; rounds -/
def RP (R : Value → World → Prop) (Rp : List PanicEntry → World → Prop) (e : Ending) (w : World) : Prop := (∃ v, e = .returned v ∧ R v w) ∨ (∃ ch, e = .panicked ch ∧ Rp ch w)
/-- A contract of a function that may panic. -/
def RetP (P : Program) (f : FuncId) (args : Array Value) (w : World) (R : Value → World → Prop) (Rp : List PanicEntry → World → Prop) : Prop := Calls P f args w (RP R Rp)
theorem RetP.mono {P : Program} {f : FuncId} {args : Array Value} {w : World} {R R' : Value → World → Prop} {Rp Rp' : List PanicEntry → World → Prop} (h : RetP P f args w R Rp) (hr : ∀ v w', R v w' → R' v w') (hp : ∀ ch w', Rp ch w' → Rp' ch w') : RetP P f args w R' Rp' :=
  Calls.mono h fun _ _ h => h.imp (fun ⟨v, e, k⟩ => ⟨v, e, hr v _ k⟩) (fun ⟨ch, e, k⟩ => ⟨ch, e, hp ch _ k⟩)
theorem RetP.ret {P : Program} {f : FuncId} {args : Array Value} {w : World} {R : Value → World → Prop} {Rp : List PanicEntry → World → Prop} (h : RetP P f args w R Rp) (hp : ∀ ch w', ¬ Rp ch w') : Ret P f args w R :=
  Calls.mono h fun _ _ h => h.elim id fun ⟨_, _, k⟩ => absurd k (hp _ _)
/-- A call of a loop's yield. -/
def Yld (P : Program) (l : Nat) (args : Array Value) (w : World) (R : Value → World → Prop) : Prop :=
  ∃ fn tmps asg body, (Instr.yield l args).run P w = .ok (.round l fn tmps asg body) w ∧ RoundIn Fence.wide 0 P l fn tmps asg body w fun e w' => ∃ v, e = .returned v ∧ R v w'
theorem Yld.mono {P : Program} {l : Nat} {args : Array Value} {w : World} {R R' : Value → World → Prop} (h : Yld P l args w R) (hr : ∀ v w', R v w' → R' v w') : Yld P l args w R' := by
  obtain ⟨fn, tmps, asg, body, h1, h2⟩ := h
  exact ⟨fn, tmps, asg, body, h1, RoundIn.mono h2 fun _ _ ⟨v, e, k⟩ => ⟨v, e, hr v _ k⟩⟩
@[reducible] def yldV (l : Nat) : Value := .func (.yield l) #[] #[]
section
variable {P : Program} {Z : List PanicEntry → Act → World → Prop} {ops : List Oper} {cl : List Nat} {lv : List Bool} {W0 : World} {n : Nat} {K : Act → World → Prop} {k : Nat} {rest : List Oper} {σ : List Ent} {w : World} {d : Nat} {op : Op} {ty : TypeId} {pos : String} {after : Array Edge} {v : Value}
theorem sr_yield {x : Operand} {l : Nat} {xs : List Operand} {vs : List Value} {ats : Array TypeId} {R : Value → World → Prop} (hb : (!Nat.beq (clOf cl k) 0 && !Nat.beq (clOf cl k) 3 && Nat.blt d n) = true) (hx : Ev n σ True x (yldV l)) (ha : EvArgs n σ True xs vs) (hY : Yld P l vs.toArray w R)
    (h : ∀ v w', R v w' → (clOf cl k = 1 → G w w') ∧ SR P Z ops cl lv W0 n K (k + 1) rest ((d, True, v) :: σ) w') :
    SR P Z ops cl lv W0 n K k (⟨some d, .call { callee := .value x, args := xs.toArray, argTypes := ats }, ty, pos, after, none⟩ :: rest) σ w := fun hl a hk => by
  obtain ⟨h0, h1⟩ := shift_ops hl
  simp only [Bool.and_eq_true, Bool.not_eq_true'] at hb
  rw [List.length_cons, List.range'_succ]
  refine ⟨_, h0, ?_⟩
  rw [if_neg (fun he => by rcases he with he | he <;> rw [he] at hb <;> simp at hb), if_pos want_none]
  obtain ⟨fn, tmps, asg, body, hy, hR⟩ := hY
  refine .inr (.inr (.inr ⟨l, fn, tmps, asg, body, ?_, RoundIn.mono hR fun e w' ⟨v, he, hv⟩ => ?_⟩))
  · have h2 : xs.toArray.map a.eval = vs.toArray := by rw [List.map_toArray, ha a hk trivial]
    simp only [execOp, resolve, hx a hk trivial, h2, Deferred.ofValue, Sem.run_bind, Sem.run_pure, Result.andThen_ok, invoke]
    simpa using hy
  · obtain ⟨q1, q2⟩ := h v w' hv
    exact ⟨v, he, fun hh => q1 (by simpa using hh), q2 h1 _ (hk.put hb.2 (fun _ => rfl) (fun hn => absurd trivial hn))⟩
end
end Go.Rk
namespace Go.Rk
open Go Go.RowKit
set_option linter.unusedVariables false
/-! ends -/
def TD (P : Program) (fn : Func) (R : Value → World → Prop) (Rp : List PanicEntry → World → Prop) : DPost := fun ds a w => LeavesInM Fence.wide 0 P fn a.tmps (RP R Rp) ds .returning w
def ZD (P : Program) (fn : Func) (R : Value → World → Prop) (Rp : List PanicEntry → World → Prop) (ch : List PanicEntry) : DPost := fun ds a w => LeavesInM Fence.wide 0 P fn a.tmps (RP R Rp) ds (.panicking ch) w
theorem retP_of_scd {P : Program} {f : FuncId} {fn : Func} {c : Code} {args : List Value} {w : World} {R : Value → World → Prop} {Rp : List PanicEntry → World → Prop} {m : Nat} (hf : P.funcs[f]? = some fn) (hb : fn.body = some c) (hm : args.length + (fn.ntmps - args.length) = m)
    (σ0 : List Ent) (hs : Sub σ0 (argsK 0 args)) (hh : SCD P none m [] c (TD P fn R Rp) [] (TD P fn R Rp) (ZD P fn R Rp) σ0 w) : RetP P f args.toArray w R Rp := by
  have h0 := hh { tmps := args.toArray ++ Array.replicate (fn.ntmps - args.toArray.size) undef, defers := [] } (Kn.sub (σ := argsK 0 args) ?_ hs)
  refine callsIn_wide.1 (callsIn_of_wp_marks (F := Fence.wide) (n := 0) hf hb trivial (wpIn_mono (F := Fence.wide) h0 (fun e a w q => ?_)))
  rotate_left
  · refine ⟨by simp [← hm], rfl, fun t c' v hl => ?_⟩
    obtain ⟨rfl, _, h3⟩ := argsK_spec args 0 t c' v hl
    refine ⟨fun _ => ?_, fun hn => absurd trivial hn⟩
    rw [Nat.sub_zero] at h3
    have hlt : t < args.length := (List.getElem?_eq_some_iff.1 h3).1
    simp [Array.getElem?_append, hlt, h3]
    simpa [hlt] using h3
  cases e with
    | normal => exact q
    | ret => exact q
    | exit id => exact q.elim
    | goto l => exact q.elim
    | panic ch => exact q
    | outgrown => exact q.elim
theorem ret_of_scd {P : Program} {f : FuncId} {fn : Func} {c : Code} {args : List Value} {w : World} {R : Value → World → Prop} {m : Nat} (hf : P.funcs[f]? = some fn) (hb : fn.body = some c) (hm : args.length + (fn.ntmps - args.length) = m)
    (σ0 : List Ent) (hs : Sub σ0 (argsK 0 args)) (hh : SCD P none m [] c (TD P fn R fun _ _ => False) [] (TD P fn R fun _ _ => False) (ZD P fn R fun _ _ => False) σ0 w) : Ret P f args.toArray w R :=
  (retP_of_scd hf hb hm σ0 hs hh).ret fun _ _ h => h
section
variable {P : Program} {n : Nat} {fn : Func} {R : Value → World → Prop} {Rp : List PanicEntry → World → Prop} {σ : List Ent} {w : World} {ds : List Deferred}
/-- No deferred call is left. -/
theorem td_ret (h : ∀ a, Kn n σ a → bodyPost P fn (fun e w' => ∃ v, e = .returned v ∧ R v w') .ret a w) : ∀ a, Kn n σ a → TD P fn R Rp [] a w := fun a ha => by
  have h1 := h a ha
  unfold bodyPost at h1
  obtain ⟨hd, v, hr, v', e, hv⟩ := h1
  injection e with e; subst e
  exact ⟨_, hr, .inl ⟨_, rfl, hv⟩⟩
theorem td_end0 (hr : fn.results = #[]) (h : R (.tuple #[]) w) : ∀ a, Kn n σ a → TD P fn R Rp [] a w := fun a ha => ⟨_, results_none hr _ _ _, .inl ⟨_, rfl, h⟩⟩
@[reducible] def markD (db : Nat) : Deferred := { target := .collected db, args := #[] }
theorem td_mark {db : Nat} (hk : w.heap[db]? = some (.deferred (some []))) (h : ∀ a, Kn n σ a → TD P fn R Rp ds a (w.putObj db (.deferred none))) : ∀ a, Kn n σ a → TD P fn R Rp (markD db :: ds) a w := fun a ha =>
  ⟨by simp, .inl ⟨_, _, rfl, run_takeDeferred hk, h a ha⟩⟩
/-- A contract of a function's body, for a call or a deferred call. -/
def RetB (P : Program) (f : FuncId) (args : Array Value) (w : World) (R : Value → World → Prop) : Prop :=
  ∃ fn c, P.funcs[f]? = some fn ∧ fn.body = some c ∧ c.wp P (bodyPost P fn (fun e w' => ∃ v, e = .returned v ∧ R v w')) { tmps := args ++ Array.replicate (fn.ntmps - args.size) undef, defers := [] } w
theorem RetB.ret {P : Program} {f : FuncId} {args : Array Value} {w : World} {R : Value → World → Prop} (h : RetB P f args w R) : Ret P f args w R := by
  obtain ⟨fn, c, hf, hb, h⟩ := h
  exact calls_of_wp hf hb h
theorem RetB.mono {P : Program} {f : FuncId} {args : Array Value} {w : World} {R R' : Value → World → Prop} (h : RetB P f args w R) (hr : ∀ v w', R v w' → R' v w') : RetB P f args w R' := by
  obtain ⟨fn, c, hf, hb, h⟩ := h
  refine ⟨fn, c, hf, hb, wp_mono h fun e a w q => ?_⟩
  unfold bodyPost at q ⊢
  split at q <;> first
    | (obtain ⟨q0, v, q1, v', q3, q4⟩ := q; exact ⟨q0, v, q1, v', q3, hr _ _ q4⟩)
    | (obtain ⟨q1, v', q3, q4⟩ := q; exact ⟨q1, v', q3, hr _ _ q4⟩)
    | (obtain ⟨v', q3, q4⟩ := q; exact ⟨v', q3, hr _ _ q4⟩)
    | exact q.elim
theorem retB_of_sc {f : FuncId} {fn : Func} {c : Code} {args : List Value} {R : Value → World → Prop} {m : Nat} (hf : P.funcs[f]? = some fn) (hb : fn.body = some c) (hm : args.length + (fn.ntmps - args.length) = m)
    (σ0 : List Ent) (hs : Sub σ0 (argsK 0 args))
    (hh : SC P m c (fun a w => bodyPost P fn (fun e w' => ∃ v, e = .returned v ∧ R v w') .normal a w) [] (fun a w => bodyPost P fn (fun e w' => ∃ v, e = .returned v ∧ R v w') .ret a w)
      σ0 w) : RetB P f args.toArray w R := by
  refine ⟨fn, c, hf, hb, (Code.wp_mono (fun e a w q => ?_) (hh _ (Kn.sub (σ := argsK 0 args) ?_ hs)))⟩
  · cases e with
    | normal => exact q
    | ret => exact q
    | _ => exact q.elim
  · refine ⟨by simp [← hm], rfl, fun t c' v hl => ?_⟩
    obtain ⟨rfl, _, h3⟩ := argsK_spec args 0 t c' v hl
    refine ⟨fun _ => ?_, fun hn => absurd trivial hn⟩
    rw [Nat.sub_zero] at h3
    have hlt : t < args.length := (List.getElem?_eq_some_iff.1 h3).1
    simp [Array.getElem?_append, hlt, h3]
    simpa [hlt] using h3
theorem retB_callsD {f : FuncId} {args : Array Value} {u : FrameMode} {w : World} {R : Value → World → Prop} (h : RetB P f args w R) : CallsDIn Fence.wide (0 - 1) P f args u w fun e u' w' => u' = u ∧ ∃ v, e = .returned v ∧ R v w' := by
  obtain ⟨fn, c, hf, hb, h⟩ := h
  exact callsDIn_of_wp hf hb trivial (wpIn_wide.2 h)
@[reducible] def fnD (f : Nat) (cs args : Array Value) : Deferred := { target := .fn (.func f) cs, args := args }
theorem td_call {f : Nat} {cs args : Array Value} {R' : Value → World → Prop} (hgo : goFn P f = true) (hC : RetB P f (args ++ cs) w R') (h : ∀ v w', R' v w' → ∀ a, Kn n σ a → TD P fn R Rp ds a w') : ∀ a, Kn n σ a → TD P fn R Rp (fnD f cs args :: ds) a w := fun a ha => by
  refine ⟨by simp, .inr ⟨(fun h => by cases h), .func f, cs, f, args ++ cs, rfl, run_goFn hgo _ _, fun _ _ => trivial, ?_⟩⟩
  have h1 := retB_callsD (u := .returning) hC
  refine ⟨h1.1, fun c cs' hu hr => ?_⟩
  obtain ⟨e, u', w', fr, ⟨rfl, v, rfl, hv⟩, h2⟩ := h1.2 c cs' hu hr
  refine ⟨.returned v, _, w', fr, ?_, h2⟩
  show LeavesInM _ _ _ _ _ _ _ (settle .returning) _
  exact h v w' hv a ha
end
theorem RS.mono {P : Program} {Z : List PanicEntry → Act → World → Prop} {ops : Array Oper} {cl : Nat → Nat} {lv : Nat → Bool} {W0 : World} {K K' : Act → World → Prop} (hK : ∀ a w, K a w → K' a w) : ∀ (L : List Nat) (a : Act) (w : World), RS P Z ops cl lv W0 K L a w → RS P Z ops cl lv W0 K' L a w
  | [], a, w, h => hK _ _ h
  | i :: rest, a, w, ⟨o, ho, hb⟩ => by
    refine ⟨o, ho, ?_⟩
    by_cases hc : cl i = 0 ∨ cl i = 3
    · rw [if_pos hc] at hb ⊢
      obtain ⟨v, h1, h2, h3⟩ := hb
      exact ⟨v, h1, h2, RS.mono hK rest _ _ h3⟩
    · rw [if_neg hc] at hb ⊢
      by_cases hw : Region.wanted o (yielded ops a.tmps) = true
      · rw [if_pos hw] at hb ⊢
        exact hb.turn rfl (fun _ _ h => h) fun v w' _ hk => RS.mono hK rest _ _ hk
      · rw [if_neg hw] at hb ⊢
        exact RS.mono hK rest _ _ hb
/-! the operation that defers a call, last in its region -/
def RunD (P : Program) (n : Nat) (σ : List Ent) (w : World) (op : Op) (ty : TypeId) (d : Deferred) : Prop :=
  ∀ (dst : Option Tmp) (pos : String) (after : Array Edge) (g : Option (Nat × Bool)) (a : Act), Kn n σ a → (execOp a.eval ⟨dst, op, ty, pos, after, g⟩).run P w = .ok (.defer d) w
theorem rdd_call {P : Program} {n : Nat} {σ : List Ent} {w : World} {x : Operand} {f : Nat} {cs : Array Value} {xs : List Operand} {vs : List Value} {ats : Array TypeId} {ty : TypeId} (h : Ev n σ True x (.func (.func f) #[] cs)) (hx : EvArgs n σ True xs vs) :
    RunD P n σ w (.defer { callee := .value x, args := xs.toArray, argTypes := ats }) ty (fnD f cs vs.toArray) := fun dst pos after g a hk => by
  have h2 : xs.toArray.map a.eval = vs.toArray := by rw [List.map_toArray, hx a hk trivial]
  simp [execOp, resolve, h a hk trivial, h2, Deferred.ofValue, fnD]
def KDef (P : Program) (o : Oper) (N : DPost) (ds : List Deferred) (a : Act) (w : World) : Prop := ∃ d, (execOp a.eval o).run P w = .ok (.defer d) w ∧ N (d :: ds) (a.put o.dst undef) w
theorem kdef_mk {P : Program} {n : Nat} {σ : List Ent} {w : World} {op : Op} {ty : TypeId} {pos : String} {after : Array Edge} {d : Deferred} {N : DPost} {ds : List Deferred} (hr : RunD P n σ w op ty d) (h : ∀ a, Kn n σ a → N (d :: ds) a w) : ∀ a, Kn n σ a → KDef P ⟨none, op, ty, pos, after, none⟩ N ds a w := fun a ha =>
  ⟨d, hr _ _ _ _ a ha, h a ha⟩
theorem opsIn_app {P : Program} {F : Fence} {n : Nat} {ops : Array Oper} {Q : Exit → Act → World → Prop} {L2 : List Nat} : ∀ (L1 : List Nat) (a : Act) (w : World), wpOpsIn F n P ops (Exit.then (fun a w => wpOpsIn F n P ops Q L2 a w) Q) L1 a w → wpOpsIn F n P ops Q (L1 ++ L2) a w
  | [], a, w, h => h
  | i :: L1, a, w, h => by
    have e := wpOpsIn_cons (F := F) (n := n) (P := P) (ops := ops) (Q := Q) i (L1 ++ L2) a w
    rw [List.cons_append, e]
    have e1 := wpOpsIn_cons (F := F) (n := n) (P := P) (ops := ops) (Q := Exit.then (fun a w => wpOpsIn F n P ops Q L2 a w) Q) i L1 a w
    rw [e1] at h
    unfold wpOpIn at h ⊢
    cases ho : ops[i]? with
    | none => simp only [ho] at h ⊢; exact opsIn_app L1 _ _ h
    | some o =>
      simp only [ho] at h ⊢
      by_cases hw : Region.wanted o (yielded ops a.tmps) = true
      · rw [if_pos hw] at h ⊢
        refine ⟨h.1, ?_⟩
        have h2 := h.2
        generalize (o.semAt F.round a.eval).run P w = r at *
        cases r with
        | ok x w' =>
          cases x <;> simp only [Oper.uponIn, LetsOut] at h2 ⊢ <;>
            first
              | exact opsIn_app L1 _ _ h2
              | exact ⟨h2.1, CallsIn.mono h2.2 (fun e w'' he => by cases e <;> first | exact opsIn_app L1 _ _ he | exact he)⟩
              | exact ⟨h2.1, RowsIn.mono h2.2 (fun _ _ he => opsIn_app L1 _ _ he)⟩
              | exact ⟨h2.1, RoundIn.mono h2.2 (fun e w'' he => by cases e <;> first | exact opsIn_app L1 _ _ he | exact he)⟩
              | exact h2
        | halt x w' => cases x <;> simp only [Oper.uponIn] at h2 ⊢ <;> exact h2
      · rw [if_neg hw] at h ⊢
        exact ⟨h.1, opsIn_app L1 _ _ h.2⟩
section
variable {P : Program} {n : Nat} {ds : List Deferred} {N T : DPost} {X : List (Nat × DPost)} {Z : List PanicEntry → DPost} {σ : List Ent} {w : World}
theorem scd_text_defer {id k : Nat} {l : List Oper} {o : Oper} (cl : List Nat) (hk : Nat.beq l.length (k + 1) = true) (ho : l[k]? = some o) (hg : o.guard = none)
    (h : SR P (fun ch a w => Z ch ds a w) l cl [] w n (KDef P o N ds) 0 (l.take k) σ w) : SCD P none n ds (.region id l.toArray false) N X T Z σ w := fun a ha => by
  have hk := Nat.eq_of_beq_eq_true hk
  have h1 := h (fun j o' ho' => by
    rw [List.getElem?_take] at ho'
    split at ho'
    · simpa using ho'
    · cases ho') a ha
  have e : lvOf [] = fun _ => true := by funext i; simp [lvOf]
  rw [e] at h1
  have h2 := RS.wd (Z := Z) (N := fun ds a w => KDef P o N ds a w) ds _ a w ha.2.1 h1
  refine wpIn_region ?_
  have hL : List.range l.toArray.size = List.range' 0 (l.take k).length ++ [k] := by
    rw [List.length_take, Nat.min_eq_left (by omega), List.size_toArray, hk, List.range_succ, List.range_eq_range']
  rw [hL]
  refine opsIn_app _ _ _ (ops_of_RS (ρ := none) (cl := clOf cl) (W0 := w) (Z := fun ch => onD (Z ch)) (fun ch a w h => h) _ _ _ ?_)
  refine RS.mono (fun a' w' hq => ?_) _ _ _ h2
  obtain ⟨d, hr, hn⟩ := hq
  have hw : Region.wanted o (yielded l.toArray a'.tmps) = true := by unfold Region.wanted; rw [hg]
  show wpOpsIn (WF none) 0 P l.toArray (QofD N X T Z) [k] a' w'
  unfold wpOpsIn
  simp only [List.getElem?_toArray, ho]
  rw [if_pos hw]
  refine ⟨fun _ _ => trivial, ?_⟩
  have hr : (execOp a'.eval o).run P w' = .ok (.defer d) w' := hr
  rw [show Oper.semAt (WF none).round a'.eval o = execOp a'.eval o from rfl, hr]
  have e1 : (({ a' with defers := d :: a'.defers } : Act).put o.dst undef).defers = d :: a'.defers := put_defers _ _ _
  have e2 : wd [] (({ a' with defers := d :: a'.defers } : Act).put o.dst undef) = (wd [] a').put o.dst undef := by
    cases o.dst <;> rfl
  show N (({ a' with defers := d :: a'.defers } : Act).put o.dst undef).defers (wd [] (({ a' with defers := d :: a'.defers } : Act).put o.dst undef)) w'
  rw [e1, e2]; exact hn
end
end Go.Rk
namespace Go.Rk
open Go Go.RowKit
set_option linter.unusedVariables false
/-! what a round may write; what lies between two rounds -/
/-- Growth but for the blocks of B. -/
structure GB (B : Nat → Prop) (w w' : World) : Prop where
  os : w'.os = w.os
  tape : w'.tape = w.tape
  output : w'.output = w.output
  size : w.heap.size ≤ w'.heap.size
  block : ∀ k, k < w.heap.size → ¬ B k → w'.heap[k]? = w.heap[k]?
theorem GB.refl (B : Nat → Prop) (w : World) : GB B w w := ⟨rfl, rfl, rfl, Nat.le_refl _, fun _ _ _ => rfl⟩
theorem GB.trans {B : Nat → Prop} {a b c : World} (h : GB B a b) (k : GB B b c) : GB B a c :=
  ⟨k.os.trans h.os, k.tape.trans h.tape, k.output.trans h.output, Nat.le_trans h.size k.size, fun i hi hn => (k.block i (Nat.lt_of_lt_of_le hi h.size) hn).trans (h.block i hi hn)⟩
theorem GB.mono {B B' : Nat → Prop} {w w' : World} (h : GB B w w') (hB : ∀ k, k < w.heap.size → B k → B' k) : GB B' w w' := ⟨h.os, h.tape, h.output, h.size, fun k hk hn => h.block k hk fun hb => hn (hB k hk hb)⟩
theorem GB.of_g {B : Nat → Prop} {w w' : World} (h : G w w') : GB B w w' := ⟨h.os, h.tape, h.output, h.size, fun k hk _ => h.block hk⟩
theorem GB.g {B : Nat → Prop} {w w' : World} (h : GB B w w') (hB : ∀ k, B k → w.heap.size ≤ k) : G w w' := ⟨h.os, h.tape, h.output, h.size, fun k hk => h.block k hk fun hb => by have := hB k hb; omega⟩
theorem g_gb {B : Nat → Prop} {w0 w w' : World} (g : G w0 w) (h : GB B w w') (hB : ∀ k, B k → w0.heap.size ≤ k) : G w0 w' :=
  ⟨h.os.trans g.os, h.tape.trans g.tape, h.output.trans g.output, Nat.le_trans g.size h.size, fun k hk => (h.block k (Nat.lt_of_lt_of_le hk g.size) fun hb => by have := hB k hb; omega).trans (g.block hk)⟩
theorem gb_only {B : Nat → Prop} {w0 w w' : World} {b : Nat} (h : GB B w0 w) (hg : w.grownBy w' (some b)) (hb : B b ∨ w0.heap.size ≤ b) : GB B w0 w' :=
  ⟨hg.os.trans h.os, hg.tape.trans h.tape, hg.output.trans h.output, Nat.le_trans h.size hg.size, fun k hk hn => (hg.block k (Nat.lt_of_lt_of_le hk h.size) (fun e => by
    injection e with e; subst e
    rcases hb with hb | hb
    · exact hn hb
    · omega)).trans (h.block k hk hn)⟩
theorem newge {a w w1 : World} {b : Nat} {e : TypeId} {l : List Value} (h : New w w1 b e l) (g : a.heap.size ≤ w.heap.size) : a.heap.size ≤ b := by have := h.at_; omega
/-- Nothing older than n changes, and no cells. -/
structure GI (n : Nat) (w w' : World) : Prop where
  below : Below n w w'
  cells : ∀ (k : Nat) (o : Obj), w.heap[k]? = some o → o.isCells = true → w'.heap[k]? = some o
theorem GI.refl (n : Nat) (w : World) : GI n w w := ⟨Below.refl _ _, fun _ _ h _ => h⟩
theorem GI.trans {n : Nat} {a b c : World} (h : GI n a b) (k : GI n b c) : GI n a c := ⟨h.below.trans k.below, fun i o hi hc => k.cells i o (h.cells i o hi hc) hc⟩
theorem GI.of_g {n : Nat} {a b : World} (h : G a b) (hn : n ≤ a.heap.size) : GI n a b := ⟨Below.mono h hn, fun k o hk _ => (h.block (Array.getElem?_eq_some_iff.1 hk).1).trans hk⟩
theorem GI.mono {n m : Nat} {a b : World} (h : GI n a b) (hm : m ≤ n) : GI m a b := ⟨h.below.mono hm, h.cells⟩
theorem GI.size {n : Nat} {a b : World} (h : GI n a b) : a.heap.size ≤ b.heap.size := h.below.size
theorem gi_putObj {n : Nat} {w : World} {l : Nat} {o : Obj} (o' : Obj) (hl : w.heap[l]? = some o) (ho : o.isCells = false) (hn : n ≤ l) : GI n w (w.putObj l o') :=
  ⟨⟨rfl, rfl, rfl, by simp, fun k hk => World.putObj_heap_other (by omega)⟩, fun k o2 hk hc => by
    by_cases e : k = l
    · subst e; rw [hl] at hk; injection hk with hk; subst hk; rw [ho] at hc; cases hc
    · exact (World.putObj_heap_other e).trans hk⟩
theorem g_gi {w0 w w' : World} {n : Nat} (g : G w0 w) (h : GI n w w') (hn : w0.heap.size ≤ n) : G w0 w' := Below.trans g (h.below.mono hn)
theorem Blk.gi {w w' : World} {n b : Nat} {e : TypeId} {l : List Value} (h : Blk w b e l) (g : GI n w w') : Blk w' b e l := g.cells b _ h rfl
theorem cell_gi {w w' : World} {n : Nat} {a : Addr} {v : Value} (h : w.cell? a = some v) (g : GI n w w') : w'.cell? a = some v := by
  obtain ⟨o, ho, hc⟩ := cells_of_cell h
  exact (World.cell?_of_block ((g.cells _ o ho hc).trans ho.symm)).trans h
theorem RowAt.gi {w w' : World} {n b o : Nat} {l : List Value} (h : RowAt w b o l) (g : GI n w w') : RowAt w' b o l := fun j v hj => cell_gi (h j v hj) g
theorem Blk.gb {w w' : World} {B : Nat → Prop} {b : Nat} {e : TypeId} {l : List Value} (h : Blk w b e l) (g : GB B w w') (hb : ¬ B b) : Blk w' b e l := (g.block b h.lt hb).trans h
theorem RowAt.gb {w w' : World} {B : Nat → Prop} {b o : Nat} {l : List Value} (h : RowAt w b o l) (g : GB B w w') (hb : ¬ B b) : RowAt w' b o l := fun j v hj => by
  have h1 := h j v hj
  have hlt := World.block_lt_of_cell? w _ h1
  exact (World.cell?_of_block (g.block b hlt hb)).trans h1
theorem gb_below {B : Nat → Prop} {w A C : World} {m : Nat} (h : GB B w A) (g : Below m A C) (hm : w.heap.size ≤ m) : GB B w C :=
  ⟨g.os.trans h.os, g.tape.trans h.tape, g.output.trans h.output, Nat.le_trans h.size g.size, fun k hk hn => (g.block k (by omega)).trans (h.block k hk hn)⟩
theorem lookup_map {β : Type} (f : Nat → β) : ∀ (ids : List Nat) (id : Nat), (ids.map fun i => (i, f i)).lookup id = if id ∈ ids then some (f id) else none
  | [], id => rfl
  | i :: ids, id => by
    rw [List.map_cons, List.lookup_cons]
    by_cases h : id = i
    · subst h; simp
    · have : (id == i) = false := by simpa using h
      rw [this, lookup_map f ids id]
      simp [h]
/-- What an iterator does with the loop's yield: the elements of L come in their order, each as En says; Nb: what it needs of the memory. -/
def IterOk {α : Type} (P : Program) (gf : Nat) (lb : Array Value) (w : World) (Nb : Nat → Prop) (L : List α) (En : α → World → Array Value → Prop) : Prop :=
  ∀ (l : Nat) (J Jx : List α → World → Prop) (B : Nat → Prop) (W : World), G w W → (∀ k, B k → k < W.heap.size ∧ ¬ Nb k) →
    (∀ pre A C, J pre A → GI W.heap.size A C → J pre C) → (∀ pre A C, Jx pre A → GI W.heap.size A C → Jx pre C) →
    (∀ pre x args A, J pre A → pre ++ [x] <+: L → En x A args → Yld P l args A fun b A' => GB B A A' ∧ ((b = .bool true ∧ J (pre ++ [x]) A') ∨ (b = .bool false ∧ Jx (pre ++ [x]) A'))) →
    J [] W → Ret P gf (#[yldV l] ++ lb) W fun _ W' => GB B W W' ∧ (J L W' ∨ ∃ pre x, pre ++ [x] <+: L ∧ Jx (pre ++ [x]) W')
section
variable {P : Program} {n : Nat} {ds : List Deferred} {N T : DPost} {X : List (Nat × DPost)} {Z : List PanicEntry → DPost} {σ : List Ent} {w : World}
@[reducible] def NoD : DPost := fun _ _ _ => False
@[reducible] def NoZ : List PanicEntry → DPost := fun _ _ _ _ => False
/-- The statement. I: what holds between two rounds; Ix: where a round has left by a jump; Bx: the blocks that rounds write; τ: a round's frame behind the assignment. -/
theorem scd_range {α : Type} {g : Operand} {p : Tmp} {assign body : Code} {gf : Nat} {fs lb : Array Value} {Nb Bx : Nat → Prop} {L : List α} {En : α → World → Array Value → Prop}
    (hg : Ev n σ True g (.func (.func gf) #[] lb)) (hgo : goFn P gf = true) (hit : IterOk P gf lb w Nb L En) (hNb : ∀ k, Nb k → k < w.heap.size) (hBx : ∀ k, Bx k → k < w.heap.size ∧ ¬ Nb k)
    (I : List α → World → Prop) (Ix : Code → List α → World → Prop) (ids : List Nat) (hp : Nat.blt p n = true)
    (hI : ∀ pre A C, I pre A → GI w.heap.size A C → I pre C) (hIx : ∀ c pre A C, Ix c pre A → GI w.heap.size A C → Ix c pre C)
    (hEn : ∀ x A args, En x A args → ∃ v, args = #[v]) (hEg : ∀ x A C args, En x A args → GI w.heap.size A C → En x C args)
    (h0 : I [] w)
    (hround : ∀ l pre x v A, I pre A → pre ++ [x] <+: L → En x A #[v] → w.heap.size ≤ A.heap.size → ∀ K : DPost,
      (∀ τ u, G A u → (∀ C, GI w.heap.size u C → I pre C → En x C #[v] → SCD P (some l) n [] body (fun ds a A' => ds = [] ∧ GB Bx C A' ∧ I (pre ++ [x]) A')
        (ids.map fun id => (id, fun ds a A' => ds = [] ∧ GB Bx C A' ∧ Ix (.exit id) (pre ++ [x]) A')) (fun ds a A' => ds = [] ∧ GB Bx C A' ∧ Ix .ret (pre ++ [x]) A') NoZ τ C) → ∀ a, Kn n τ a → K [] a u) →
      SCD P (some l) n [] assign K [] NoD NoZ ((p, True, v) :: σ) A)
    (hdone : ∀ db W, I L W → w.heap.size ≤ db → W.heap[db]? = some (.deferred (some [])) → GB (fun k => Bx k) w W → ∀ a, Kn n σ a → N (markD db :: ds) a W)
    (hstop : ∀ db c pre x W, Ix c (pre ++ [x]) W → pre ++ [x] <+: L → w.heap.size ≤ db → W.heap[db]? = some (.deferred (some [])) → GB (fun k => Bx k) w W → SCD P none n (markD db :: ds) c N X T Z σ W) :
    SCD P none n ds (.rangeFunc g #[p] assign body) N X T Z σ w := fun a ha => by
  refine wpIn_rangeFunc (F := Fence.wide) fun fn _ => ?_
  obtain ⟨rec, hrec⟩ : ∃ rec : LoopState → Option Code → Loop, rec = fun st pe => { state := st, pending := pe, fn, tmps := (wd ds a).tmps, params := #[p], assign, body, defers := w.heap.size } := ⟨_, rfl⟩
  obtain ⟨W1, hW1⟩ : ∃ W1, (w.alloc (.deferred (some []))).alloc (.loop (rec .ready none)) = W1 := ⟨_, rfl⟩
  have g1 : G w W1 := by rw [← hW1]; exact ((Below.refl _ w).alloc (Nat.le_refl _) _).alloc (by simp) _
  have hs1 : W1.heap.size = w.heap.size + 2 := by rw [← hW1]; simp
  have hL1 : W1.heap[w.heap.size + 1]? = some (.loop (rec .ready none)) := by
    rw [← hW1]; have := World.alloc_heap_new (w.alloc (.deferred (some []))) (.loop (rec .ready none)); rwa [World.size_alloc] at this
  have hK1 : W1.heap[w.heap.size]? = some (.deferred (some [])) := by
    rw [← hW1]; exact (Below.heap_alloc _ _ _ (by simp)).trans (World.alloc_heap_new w _)
  refine ⟨w.heap.size + 1, [markD w.heap.size], W1, { target := .fn (.func gf) lb, args := #[yldV (w.heap.size + 1)] }, W1, gf, #[yldV (w.heap.size + 1)] ++ lb, W1, ?_, ?_, (fun _ _ => trivial), ?_, (fun h => by cases h), ?_⟩
  · rw [← hW1, hrec]; exact run_enterLoop_outer _ _ _ _ _
  · have hg' : (wd ds a).eval g = .func (.func gf) #[] lb := hg a ha trivial
    simp only [resolve, hg']
    simp [go_sem, yldV]
  · simp only [invoke]; exact run_goFn hgo _ _
  have hBl : ∀ k, Bx k → ¬ k = w.heap.size + 1 := fun k hk e => by have := (hBx k hk).1; omega
  have hBd : ∀ k, Bx k → ¬ k = w.heap.size := fun k hk e => by have := (hBx k hk).1; omega
  refine callsIn_wide.2 (Calls.mono (hit (w.heap.size + 1) (fun pre A => I pre A ∧ A.heap[w.heap.size + 1]? = some (.loop (rec .ready none)) ∧ A.heap[w.heap.size]? = some (.deferred (some [])) ∧ GB Bx w A)
      (fun pre A => ∃ c, Ix c pre A ∧ A.heap[w.heap.size + 1]? = some (.loop (rec .done (some c))) ∧ A.heap[w.heap.size]? = some (.deferred (some [])) ∧ GB Bx w A) (fun k => Bx k ∨ k = w.heap.size + 1) W1 g1
      (fun k hk => ?_) (fun pre A C h hg => ?_) (fun pre A C h hg => ?_) (fun pre x args A h hpre hx => ?_) ⟨hI _ _ _ h0 (GI.of_g g1 (Nat.le_refl _)), hL1, hK1, GB.of_g g1⟩) fun e W' h => ?_)
  · rcases hk with hk | rfl
    · exact ⟨by have := (hBx k hk).1; omega, (hBx k hk).2⟩
    · exact ⟨by omega, fun h => by have := hNb _ h; omega⟩
  · exact ⟨hI _ _ _ h.1 (hg.mono (by omega)), (hg.below.block _ (by omega)).trans h.2.1, (hg.below.block _ (by omega)).trans h.2.2.1, gb_below h.2.2.2 hg.below (by omega)⟩
  · obtain ⟨c, h1, h2, h3, h4⟩ := h
    exact ⟨c, hIx _ _ _ _ h1 (hg.mono (by omega)), (hg.below.block _ (by omega)).trans h2, (hg.below.block _ (by omega)).trans h3, gb_below h4 hg.below (by omega)⟩
  · -- one round
    obtain ⟨v, rfl⟩ := hEn _ _ _ hx
    obtain ⟨hi, hl, hd, hgw⟩ := h
    have hlt : w.heap.size + 1 < A.heap.size := (Array.getElem?_eq_some_iff.1 hl).1
    have hk1 : Kn n ((p, True, v) :: σ) (a.put (some p) v) := ha.put hp (fun _ => rfl) (fun h => absurd trivial h)
    have hy := run_yield (P := P) (args := #[v]) hl (by rw [hrec]; rfl)
    have hy : (Instr.yield (w.heap.size + 1) #[v]).run P A = .ok (.round (w.heap.size + 1) fn (a.put (some p) v).tmps assign body) A := by
      rw [hy, hrec]; simp [Act.put, wd]
    refine ⟨fn, _, assign, body, hy, roundIn_of_wpIn (F := Fence.wide) trivial ?_⟩
    have e1 : ({ tmps := (a.put (some p) v).tmps, defers := [] } : Act) = wd [] (a.put (some p) v) := rfl
    rw [e1]
    have hr0 := hround (w.heap.size + 1) pre x v A hi hpre hx hgw.size (fun ds a u => ds = [] ∧ ∃ τ, Kn n τ a ∧ G A u ∧ ∀ C, GI w.heap.size u C → I pre C → En x C #[v] → SCD P (some (w.heap.size + 1)) n [] body (fun ds a A' => ds = [] ∧ GB Bx C A' ∧ I (pre ++ [x]) A')
        (ids.map fun id => (id, fun ds a A' => ds = [] ∧ GB Bx C A' ∧ Ix (.exit id) (pre ++ [x]) A')) (fun ds a A' => ds = [] ∧ GB Bx C A' ∧ Ix .ret (pre ++ [x]) A') NoZ τ C) (fun τ u h1 h2 a h3 => ⟨rfl, τ, h3, h1, h2⟩) _ hk1
    refine wpIn_mono (F := WF (some (w.heap.size + 1))) hr0 (fun e a2 u q => ?_)
    cases e with
    | normal =>
      obtain ⟨q1, τ, q3, gAu, qb⟩ := q
      replace hi := hI _ _ _ hi (GI.of_g gAu hgw.size)
      replace hx := hEg _ _ _ _ hx (GI.of_g gAu hgw.size)
      replace hl := (gAu.block hlt).trans hl
      replace hd := (gAu.block (by omega)).trans hd
      have hsAu := gAu.size
      replace hgw : GB Bx w u := hgw.trans (GB.of_g gAu)
      replace hlt : w.heap.size + 1 < u.heap.size := by omega
      refine ⟨_, run_beginRound hl (by rw [hrec]), ?_⟩
      have hgi : GI w.heap.size u (u.putObj (w.heap.size + 1) (.loop { rec .ready none with state := .busy })) := gi_putObj _ hl rfl (by omega)
      have hl2 : (u.putObj (w.heap.size + 1) (.loop { rec .ready none with state := .busy })).heap[w.heap.size + 1]? = some (.loop { rec .ready none with state := .busy }) := World.putObj_heap_same hlt
      have hd2 : (u.putObj (w.heap.size + 1) (.loop { rec .ready none with state := .busy })).heap[w.heap.size]? = some (.deferred (some [])) := (World.putObj_heap_other (by omega)).trans hd
      have hb := qb _ hgi (hI _ _ _ hi hgi) (hEg _ _ _ _ hx hgi) _ q3
      have e2 : wd [] (wd [] a2) = a2 := by cases a2; cases q1; rfl
      rw [e2] at hb
      have gw : ∀ C, GB Bx (u.putObj (w.heap.size + 1) (.loop { rec .ready none with state := .busy })) C → ∀ o, GB (fun k => Bx k ∨ k = w.heap.size + 1) A (C.putObj (w.heap.size + 1) o) := fun C hC o => (GB.of_g gAu).trans
        ⟨hC.os, hC.tape, hC.output, by have := hC.size; simp at this ⊢; omega, fun k hk hn => (World.putObj_heap_other (fun e => hn (.inr e))).trans ((hC.block k (by simpa using hk) (fun h => hn (.inl h))).trans (World.putObj_heap_other (fun e => hn (.inr e))))⟩
      have gw2 : ∀ C, GB Bx (u.putObj (w.heap.size + 1) (.loop { rec .ready none with state := .busy })) C → ∀ o, GB Bx w (C.putObj (w.heap.size + 1) o) := fun C hC o =>
        ⟨hC.os.trans hgw.os, hC.tape.trans hgw.tape, hC.output.trans hgw.output, by have := hC.size; have := hgw.size; simp at *; omega, fun k hk hn => (World.putObj_heap_other (by omega)).trans ((hC.block k (by simp; omega) hn).trans ((World.putObj_heap_other (by omega)).trans (hgw.block k hk hn)))⟩
      have fin : ∀ (jump : Option Code) (C : World), GB Bx (u.putObj (w.heap.size + 1) (.loop { rec .ready none with state := .busy })) C →
          (Instr.endRound (w.heap.size + 1) jump).run P C = .ok (.bool jump.isNone) (C.putObj (w.heap.size + 1) (.loop (rec (if jump.isNone then .ready else .done) jump))) ∧
          C.heap[w.heap.size + 1]? = some (.loop { rec .ready none with state := .busy }) ∧
          (C.putObj (w.heap.size + 1) (.loop (rec (if jump.isNone then .ready else .done) jump))).heap[w.heap.size + 1]? = some (.loop (rec (if jump.isNone then .ready else .done) jump)) ∧
          (C.putObj (w.heap.size + 1) (.loop (rec (if jump.isNone then .ready else .done) jump))).heap[w.heap.size]? = some (.deferred (some [])) := fun jump C hC => by
        have hl3 := (hC.block (w.heap.size + 1) (by simp; omega) (fun h => hBl _ h rfl)).trans hl2
        have hd3 := (hC.block w.heap.size (by simp; omega) (fun h => hBd _ h rfl)).trans hd2
        have := run_endRound (P := P) jump hl3
        rw [hrec] at this ⊢
        exact ⟨this, by rw [hrec] at hl3; exact hl3, World.putObj_heap_same (Array.getElem?_eq_some_iff.1 hl3).1, (World.putObj_heap_other (by omega)).trans hd3⟩
      refine wpIn_mono hb (fun e a3 C q => ?_)
      cases e with
      | normal =>
        obtain ⟨_, k1, k2⟩ := q
        obtain ⟨hr, hl3, hl4, hd4⟩ := fin none C k1
        exact ⟨_, _, hr, _, rfl, gw _ k1 _, .inl ⟨rfl, hI _ _ _ k2 (gi_putObj _ hl3 rfl (by omega)), hl4, hd4, gw2 _ k1 _⟩⟩
      | ret =>
        obtain ⟨_, k1, k2⟩ := q
        obtain ⟨hr, hl3, hl4, hd4⟩ := fin (some .ret) C k1
        exact ⟨_, _, hr, _, rfl, gw _ k1 _, .inr ⟨rfl, .ret, hIx _ _ _ _ k2 (gi_putObj _ hl3 rfl (by omega)), hl4, hd4, gw2 _ k1 _⟩⟩
      | exit id =>
        have q : match (ids.map fun id => (id, (fun ds a A' => ds = [] ∧ GB Bx (u.putObj (w.heap.size + 1) (.loop { rec .ready none with state := .busy })) A' ∧ Ix (.exit id) (pre ++ [x]) A' : DPost))).lookup id with | some k => onD k a3 C | none => False := q
        rw [lookup_map] at q
        split at q
        · rename_i k hk
          split at hk
          · injection hk with hk; subst hk
            obtain ⟨_, k1, k2⟩ := q
            obtain ⟨hr, hl3, hl4, hd4⟩ := fin (some (.exit id)) C k1
            exact ⟨_, _, hr, _, rfl, gw _ k1 _, .inr ⟨rfl, .exit id, hIx _ _ _ _ k2 (gi_putObj _ hl3 rfl (by omega)), hl4, hd4, gw2 _ k1 _⟩⟩
          · cases hk
        · exact q.elim
      | goto t => exact q.elim
      | panic ch => exact q.elim
      | outgrown => exact q.elim
    | ret => exact q.elim
    | exit id => exact q.elim
    | goto t => exact q.elim
    | panic ch => exact q.elim
    | outgrown => exact q.elim
  · -- behind the iterator
    obtain ⟨v, rfl, hgb, h⟩ := h
    have e3 : wd [] ({ wd ds a with defers := [markD w.heap.size] ++ (wd ds a).defers } : Act) = a := ha.strip ds
    have fin : ∀ (st : LoopState) (pe : Option Code), W'.heap[w.heap.size + 1]? = some (.loop (rec st pe)) → GB Bx w W' → GB Bx w (W'.putObj (w.heap.size + 1) (.loop { rec st pe with state := .exhausted })) := fun st pe _ hg =>
      ⟨hg.os, hg.tape, hg.output, by have := hg.size; simp at *; omega, fun k hk hn => (World.putObj_heap_other (by omega)).trans (hg.block k hk hn)⟩
    rcases h with ⟨hi, hl, hd, hg⟩ | ⟨pre, x, hpre, c, hi, hl, hd, hg⟩
    · refine ⟨none, _, (run_endLoop (P := P) hl (by rw [hrec]; simp)).trans (congrArg (fun x => Result.ok x _) (show (rec .ready none).pending = none by rw [hrec])), ?_⟩
      show N (markD w.heap.size :: ds) (wd [] ({ wd ds a with defers := [markD w.heap.size] ++ (wd ds a).defers } : Act)) _
      rw [e3]
      have := hdone w.heap.size _ (hI _ _ _ hi (gi_putObj (.loop { rec .ready none with state := .exhausted }) hl rfl (by omega))) (Nat.le_refl _) ((World.putObj_heap_other (by omega)).trans hd) (fin _ _ hl hg) a ha
      exact this
    · refine ⟨some c, _, (run_endLoop (P := P) hl (by rw [hrec]; simp)).trans (congrArg (fun x => Result.ok x _) (show (rec .done (some c)).pending = some c by rw [hrec])), ?_⟩
      have := hstop w.heap.size c pre x _ (hIx _ _ _ _ hi (gi_putObj (.loop { rec .done (some c) with state := .exhausted }) hl rfl (by omega))) hpre (Nat.le_refl _) ((World.putObj_heap_other (by omega)).trans hd) (fin _ _ hl hg) a ha
      exact this
end
end Go.Rk
