/- Merged texts of one road: SynE, SynF, SynG. Conditions: each text's own. -/
import Derived.Test.YteicjpedahoilaaGreatDoorA07
set_option linter.unusedSimpArgs false
set_option linter.unusedVariables false
namespace Go.Rk
open Go Go.RowKit
def exprB (t : Nd) : Bool := expK t.kind && permF t
def blockB (t : Nd) : Bool := decide (t.kind = 10) && permF t
def stmtB (t : Nd) : Bool := stK t.kind && permF t
def ifB (t : Nd) : Bool := decide (t.kind = 18) && permF t
def varB (t : Nd) : Bool := decide (t.kind = 6) && permF t
def commF (t : Nd) : Bool := commB t && permF t
def plainB (t : Nd) : Bool := decide (t.text = [])
def noneB (t : Nd) : Bool := (decide (t.kind = 9) && decide (t.text = [])) && lenK t 0
def kindB (t : Nd) (k : Int) : Bool := decide (t.kind = k) && exprB t
theorem len_two {α : Type} {l : List α} (h : l.length = 2) : ∃ a b, l = [a, b] := by
  match l, h with | [a, b], _ => exact ⟨a, b, rfl⟩
theorem len_three {α : Type} {l : List α} (h : l.length = 3) : ∃ a b c, l = [a, b, c] := by
  match l, h with | [a, b, c], _ => exact ⟨a, b, c, rfl⟩
theorem memK_one (a k : Int) : memK [a] k = decide (k = a) := by simp [memK]
theorem lenK_f {t : Nd} (n : Nat) (h : t.kids.length ≠ n) : lenK t (n : Int) = false := by rw [lenK, decide_eq_false]; omega
theorem kidsB_f {t : Nd} {qs : List (Int → Bool)} (h : t.kids.length ≠ qs.length) : kidsB t qs = false := by rw [kidsB, decide_eq_false h, Bool.false_and]
theorem kids_0 {t : Nd} {f : Nd → Bool} : (lenK t 0 && t.kids.all f) = lenK t 0 := by
  by_cases h : t.kids.length = 0
  · rw [List.length_eq_zero_iff.1 h, List.all_nil, Bool.and_true]
  · rw [show lenK t 0 = false from lenK_f 0 h]; rfl
theorem kids_1 {t : Nd} {q : Int → Bool} : (kidsB t [q] && t.kids.all permF) = (lenK t 1 && (q (kidAt t 0).kind && permF (kidAt t 0))) := by
  by_cases h : t.kids.length = 1
  · obtain ⟨a, ha⟩ := List.length_eq_one_iff.1 h
    simp [lenK, kidsB, kidAt, ha, List.range_succ]
  · rw [show lenK t 1 = false from lenK_f 1 h, kidsB_f h]; rfl
theorem kids_2 {t : Nd} {q q2 : Int → Bool} : (kidsB t [q, q2] && t.kids.all permF) = (lenK t 2 && ((q (kidAt t 0).kind && permF (kidAt t 0)) && (q2 (kidAt t 1).kind && permF (kidAt t 1)))) := by
  by_cases h : t.kids.length = 2
  · obtain ⟨a, b, ha⟩ := len_two h
    simp [lenK, kidsB, kidAt, ha, List.range_succ]; ac_rfl
  · rw [show lenK t 2 = false from lenK_f 2 h, kidsB_f h]; rfl
theorem kids_3 {t : Nd} {q q2 q3 : Int → Bool} : (kidsB t [q, q2, q3] && t.kids.all permF) = (lenK t 3 && (((q (kidAt t 0).kind && permF (kidAt t 0)) && (q2 (kidAt t 1).kind && permF (kidAt t 1))) && (q3 (kidAt t 2).kind && permF (kidAt t 2)))) := by
  by_cases h : t.kids.length = 3
  · obtain ⟨a, b, c, ha⟩ := len_three h
    simp [lenK, kidsB, kidAt, ha, List.range_succ]; ac_rfl
  · rw [show lenK t 3 = false from lenK_f 3 h, kidsB_f h]; rfl
theorem all_1 {t : Nd} {f : Nd → Bool} : (lenK t 1 && t.kids.all f) = (lenK t 1 && f (kidAt t 0)) := by
  by_cases h : t.kids.length = 1
  · obtain ⟨a, ha⟩ := List.length_eq_one_iff.1 h
    simp [lenK, kidAt, ha]
  · rw [show lenK t 1 = false from lenK_f 1 h]; rfl
theorem all_2 {t : Nd} {f : Nd → Bool} : (lenK t 2 && t.kids.all f) = (lenK t 2 && (f (kidAt t 0) && f (kidAt t 1))) := by
  by_cases h : t.kids.length = 2
  · obtain ⟨a, b, ha⟩ := len_two h
    simp [lenK, kidAt, ha]
  · rw [show lenK t 2 = false from lenK_f 2 h]; rfl
theorem every_all {t : Nd} {q : Int → Bool} : (everyB t q && t.kids.all permF) = t.kids.all fun k => q k.kind && permF k := by
  rw [everyB, Bool.eq_iff_iff]
  simp only [Bool.and_eq_true, List.all_eq_true]
  exact ⟨fun h k hk => ⟨h.1 k hk, h.2 k hk⟩, fun h => ⟨fun k hk => (h k hk).1, fun k hk => (h k hk).2⟩⟩
theorem exp_all {t : Nd} : (everyB t expK && t.kids.all permF) = t.kids.all exprB := every_all
def refExpr (t : Nd) : Bool :=
  bif decide (t.kind = 24) then (plainB t && lenK t 0) && decide (0 ≤ t.num)
  else bif decide (t.kind = 25) then (plainB t && lenK t 0) && (decide (t.num = 0) || decide (t.num = 1))
  else bif decide (t.kind = 26) then plainB t && lenK t 0
  else bif anyK [27, 34] t.kind then nameB t.text && lenK t 0
  else bif decide (t.kind = 28) then (nameB t.text && lenK t 1) && exprB (kidAt t 0)
  else bif decide (t.kind = 29) then (plainB t && lenK t 2) && t.kids.all exprB
  else bif decide (t.kind = 30) then (plainB t && decide (1 ≤ (t.kids.length : Int))) && t.kids.all exprB
  else bif decide (t.kind = 31) then ((decide (t.text = [45]) || decide (t.text = [33])) && lenK t 1) && exprB (kidAt t 0)
  else bif decide (t.kind = 32) then (anyS binOps t.text && lenK t 2) && t.kids.all exprB
  else bif anyK [33, 35, 36, 37] t.kind then (plainB t && lenK t 1) && exprB (kidAt t 0)
  else bif decide (t.kind = 38) then (plainB t && lenK t 1) && blockB (kidAt t 0)
  else false
theorem fl0 {t : Nd} {X : Bool} : (X && lenK t 0) = ((X && lenK t 0) && t.kids.all permF) := by rw [Bool.and_assoc, kids_0]
theorem fl0' {t : Nd} {X Y : Bool} : ((X && lenK t 0) && Y) = ((X && (lenK t 0 && Y)) && t.kids.all permF) := by
  rw [show ((X && (lenK t 0 && Y)) && t.kids.all permF) = ((X && Y) && (lenK t 0 && t.kids.all permF)) by simp only [Bool.and_assoc, Bool.and_comm, Bool.and_left_comm], kids_0]
  simp only [Bool.and_assoc, Bool.and_comm, Bool.and_left_comm]
theorem fl1 {t : Nd} {X : Bool} {q : Int → Bool} : ((X && lenK t 1) && (q (kidAt t 0).kind && permF (kidAt t 0))) = ((X && kidsB t [q]) && t.kids.all permF) := by rw [Bool.and_assoc, Bool.and_assoc, kids_1]
theorem fl2 {t : Nd} {X : Bool} : ((X && lenK t 2) && t.kids.all exprB) = ((X && kidsB t [expK, expK]) && t.kids.all permF) := by rw [Bool.and_assoc, Bool.and_assoc, kids_2, all_2]; rfl
theorem flv {t : Nd} {X Y Z : Bool} (h : Y = Z) : ((X && Y) && t.kids.all exprB) = ((X && (Z && everyB t expK)) && t.kids.all permF) := by rw [Bool.and_assoc, Bool.and_assoc, Bool.and_assoc, exp_all, h]
theorem refExpr_eq (t : Nd) : refExpr t = exprB t := by
  rw [exprB, permF_eq, locB]
  unfold refExpr textB' formB
  by_cases h : t.kind = 24
  · rw [h]; exact fl0'
  by_cases h1 : t.kind = 25
  · rw [h1]; exact fl0'
  by_cases h2 : t.kind = 26
  · rw [h2]; exact fl0
  by_cases h3 : t.kind = 27
  · rw [h3]; exact fl0
  by_cases h4 : t.kind = 34
  · rw [h4]; exact fl0
  by_cases h5 : t.kind = 28
  · rw [h5]; exact fl1
  by_cases h6 : t.kind = 29
  · rw [h6]; exact fl2
  by_cases h7 : t.kind = 30
  · rw [h7]; exact flv (by rw [decide_eq_decide]; omega)
  by_cases h8 : t.kind = 31
  · rw [h8]; exact fl1
  by_cases h9 : t.kind = 32
  · rw [h9]; exact fl2
  by_cases h10 : t.kind = 33
  · rw [h10]; exact fl1
  by_cases h11 : t.kind = 35
  · rw [h11]; exact fl1
  by_cases h12 : t.kind = 36
  · rw [h12]; exact fl1
  by_cases h13 : t.kind = 37
  · rw [h13]; exact fl1
  by_cases h14 : t.kind = 38
  · rw [h14]; refine Eq.trans ?_ (fl1 (X := plainB t) (q := memK [10])); rw [memK_one]; rfl
  simp only [expK, anyK, decide_eq_false h, decide_eq_false h1, decide_eq_false h2, decide_eq_false h3, decide_eq_false h4, decide_eq_false h5, decide_eq_false h6, decide_eq_false h7, decide_eq_false h8, decide_eq_false h9, decide_eq_false h10, decide_eq_false h11, decide_eq_false h12, decide_eq_false h13, decide_eq_false h14, Bool.or_false, cond_false, Bool.false_and]
def refBlock (t : Nd) : Bool := bif !decide (t.kind = 10) || !plainB t then false else t.kids.all stmtB
def refIf (t : Nd) : Bool := bif (!decide (t.kind = 18) || !plainB t) || !lenK t 3 then false else (exprB (kidAt t 0) && blockB (kidAt t 1)) && ((blockB (kidAt t 2) || ifB (kidAt t 2)) || noneB (kidAt t 2))
def refVar (t : Nd) : Bool := (((decide (t.kind = 6) && nameB t.text) && lenK t 2) && isTypeB (kidAt t 0)) && (noneB (kidAt t 1) || exprB (kidAt t 1))
theorem or_two (a b p : Bool) : ((a && p) || (b && p)) = ((b || a) && p) := by cases a <;> cases b <;> cases p <;> rfl
theorem or_three (a b c p : Bool) : (((a && p) || (b && p)) || (c && p)) = (((a || b) || c) && p) := by cases a <;> cases b <;> cases c <;> cases p <;> rfl
theorem not_if2 (a b c : Bool) : (bif !a || !b then false else c) = ((a && b) && c) := by cases a <;> cases b <;> rfl
theorem not_if3 (a b c d : Bool) : (bif (!a || !b) || !c then false else d) = (((a && b) && c) && d) := by cases a <;> cases b <;> cases c <;> rfl
theorem noneB_eq (t : Nd) : noneB t = (decide (t.kind = 9) && permF t) := by
  rw [noneB]
  by_cases h : t.kind = 9
  · rw [permF_eq, locB, textB', formB, h, Bool.and_assoc]; exact congrArg (true && ·) fl0
  · rw [decide_eq_false h]; rfl
theorem isTypeB_eq (t : Nd) : isTypeB t = (typK t.kind && permF t) := by
  rw [permF_eq, locB]
  unfold isTypeB textB' formB
  by_cases h : t.kind = 8
  · rw [h]; exact fl0
  by_cases h1 : t.kind = 7
  · rw [h1]; exact fl0
  rw [decide_eq_false h, decide_eq_false h1, typK, anyK, anyK, decide_eq_false h, decide_eq_false h1]; rfl
theorem refBlock_eq (t : Nd) : refBlock t = blockB t := by
  rw [refBlock, blockB, not_if2]
  by_cases h : t.kind = 10
  · rw [permF_eq, locB, textB', formB, h, Bool.and_assoc]; exact congrArg (true && ·) (by
      refine Eq.trans ?_ (Bool.and_assoc (plainB t) (everyB t stK) _).symm
      rw [every_all]; rfl)
  · rw [decide_eq_false h]; rfl
theorem refIf_eq (t : Nd) : refIf t = ifB t := by
  rw [refIf, not_if3, show ifB t = (decide (t.kind = 18) && permF t) from rfl]
  by_cases h : t.kind = 18
  · rw [permF_eq, locB, textB', formB, h, Bool.and_assoc, Bool.and_assoc]; exact congrArg (true && ·) (by
      refine Eq.trans ?_ (Bool.and_assoc (plainB t) (kidsB t [expK, memK [10], memK [10, 18, 9]]) _).symm
      rw [kids_3, memK_one, noneB_eq, show memK [10, 18, 9] (kidAt t 2).kind = ((decide ((kidAt t 2).kind = 10) || decide ((kidAt t 2).kind = 18)) || decide ((kidAt t 2).kind = 9)) by simp [memK, Bool.or_assoc], ← or_three]; rfl)
  · rw [decide_eq_false h]; rfl
theorem refVar_eq (t : Nd) : refVar t = varB t := by
  rw [refVar, varB]
  by_cases h : t.kind = 6
  · rw [permF_eq, locB, textB', formB, h, Bool.and_assoc, Bool.and_assoc, Bool.and_assoc]; exact congrArg (true && ·) (by
      refine Eq.trans ?_ (Bool.and_assoc (nameB t.text) (kidsB t [typK, fun k => expK k || memK [9] k]) _).symm
      rw [kids_2, memK_one, noneB_eq, isTypeB_eq, show exprB (kidAt t 1) = (expK (kidAt t 1).kind && permF (kidAt t 1)) from rfl, or_two])
  · rw [decide_eq_false h]; rfl
def refComm (t : Nd) : Bool :=
  bif anyK [16, 9] t.kind then stmtB t || noneB t
  else bif decide (t.kind = 13) then stmtB t && decide ((kidAt t 0).kind = 33)
  else bif decide (t.kind = 12) then stmtB t && decide ((kidAt t 1).kind = 33)
  else bif decide (t.kind = 11) then stmtB t && decide ((kidAt t 0).kind = 33)
  else false
theorem perm_len1 {t : Nd} (h : t.kind = 13 ∨ t.kind = 11) (hp : permF t = true) : t.kids.length = 1 := by
  rw [permF_eq, locB, Bool.and_eq_true, Bool.and_eq_true] at hp
  have hf := hp.1.2
  rcases h with h | h <;> rw [formB, h] at hf
  · have : kidsB t [memK [30, 33]] = true := hf
    rw [kidsB, Bool.and_eq_true, decide_eq_true_eq] at this; exact this.1
  · have : kidsB t [expK] = true := hf
    rw [kidsB, Bool.and_eq_true, decide_eq_true_eq] at this; exact this.1
theorem perm_len2 {t : Nd} (h : t.kind = 12 ∨ t.kind = 6) (hp : permF t = true) : t.kids.length = 2 := by
  rw [permF_eq, locB, Bool.and_eq_true, Bool.and_eq_true] at hp
  have hf := hp.1.2
  rcases h with h | h <;> rw [formB, h] at hf
  · have : kidsB t [expK, expK] = true := hf
    rw [kidsB, Bool.and_eq_true, decide_eq_true_eq] at this; exact this.1
  · have : kidsB t [typK, fun k => expK k || memK [9] k] = true := hf
    rw [kidsB, Bool.and_eq_true, decide_eq_true_eq] at this; exact this.1
theorem and_mid {a b c : Bool} (h : a = true → b = true) : (a && c) = ((b && c) && a) := by revert h; cases a <;> cases b <;> cases c <;> simp
theorem refComm_eq (t : Nd) : refComm t = commF t := by
  rw [refComm, commF, noneB_eq, stmtB]
  unfold commB
  by_cases h : t.kind = 16
  · rw [h]; exact (show (permF t || false) = _ from Bool.or_false _)
  by_cases h1 : t.kind = 9
  · rw [h1]; rfl
  by_cases h2 : t.kind = 13
  · have hl : permF t = true → decide (((t.kids.length : Int) - 1) = 0) = true := fun hp => by rw [perm_len1 (.inl h2) hp]; rfl
    rw [h2]; exact (show _ = ((decide (((t.kids.length : Int) - 1) = 0) && decide ((kidAt t 0).kind = 33)) && permF t) from and_mid hl)
  by_cases h3 : t.kind = 12
  · have hl : permF t = true → decide (((t.kids.length : Int) - 1) = 1) = true := fun hp => by rw [perm_len2 (.inl h3) hp]; rfl
    rw [h3]; exact (show _ = ((decide (((t.kids.length : Int) - 1) = 1) && decide ((kidAt t 1).kind = 33)) && permF t) from and_mid hl)
  by_cases h4 : t.kind = 11
  · have hl : permF t = true → decide (((t.kids.length : Int) - 1) = 0) = true := fun hp => by rw [perm_len1 (.inr h4) hp]; rfl
    rw [h4]; exact (show _ = ((decide (((t.kids.length : Int) - 1) = 0) && decide ((kidAt t 0).kind = 33)) && permF t) from and_mid hl)
  simp only [anyK, decide_eq_false h, decide_eq_false h1, decide_eq_false h2, decide_eq_false h3, decide_eq_false h4, Bool.or_false, cond_false, Bool.false_and]
def caseB (t : Nd) : Bool := (((decide (t.kind = 23) && plainB t) && lenK t 2) && commF (kidAt t 0)) && blockB (kidAt t 1)
theorem caseB_eq (t : Nd) : caseB t = (decide (t.kind = 23) && permF t) := by
  rw [caseB]
  by_cases h : t.kind = 23
  · rw [permF_eq, locB, textB', formB, h]
    refine Eq.trans (b := ((plainB t && ((lenK t 2 && commB (kidAt t 0)) && memK [10] (kidAt t 1).kind)) && t.kids.all permF)) ?_ rfl
    rw [memK_one, show ((plainB t && ((lenK t 2 && commB (kidAt t 0)) && decide ((kidAt t 1).kind = 10))) && t.kids.all permF) = ((plainB t && (commB (kidAt t 0) && decide ((kidAt t 1).kind = 10))) && (lenK t 2 && t.kids.all permF)) by ac_rfl, all_2, commF, blockB]
    show (((plainB t && lenK t 2) && _) && _) = _
    ac_rfl
  · rw [decide_eq_false h]; rfl
def refSelect (t : Nd) : Bool := t.kids.all caseB && plainB t
theorem refSelect_eq {t : Nd} (h : t.kind = 22) : refSelect t = permF t := by
  rw [permF_eq, locB, textB', formB, h]
  refine Eq.trans (b := ((plainB t && everyB t (memK [23])) && t.kids.all permF)) ?_ rfl
  rw [Bool.and_assoc, every_all, refSelect, Bool.and_comm]
  congr 2
  funext k
  rw [caseB_eq, memK_one]
def refStmt (t : Nd) : Bool :=
  bif decide (t.kind = 6) then varB t
  else bif decide (t.kind = 10) then blockB t
  else bif decide (t.kind = 18) then ifB t
  else bif decide (t.kind = 22) then permF t
  else bif decide (t.kind = 11) then (nameB t.text && lenK t 1) && exprB (kidAt t 0)
  else bif anyK [12, 16] t.kind then (plainB t && lenK t 2) && t.kids.all exprB
  else bif decide (t.kind = 13) then (plainB t && lenK t 1) && (kindB (kidAt t 0) 30 || kindB (kidAt t 0) 33)
  else bif anyK [14, 15] t.kind then (plainB t && lenK t 1) && kindB (kidAt t 0) 30
  else bif anyK [17, 21] t.kind then (plainB t && lenK t 1) && exprB (kidAt t 0)
  else bif decide (t.kind = 20) then (plainB t && decide ((t.kids.length : Int) ≤ 1)) && t.kids.all exprB
  else bif decide (t.kind = 19) then ((plainB t && lenK t 2) && (noneB (kidAt t 0) || exprB (kidAt t 0))) && blockB (kidAt t 1)
  else false
theorem kindB_30 (t : Nd) : kindB t 30 = (memK [30] t.kind && permF t) := by
  rw [kindB, memK_one, exprB]
  by_cases h : t.kind = 30
  · rw [h]; rfl
  · rw [decide_eq_false h]; rfl
theorem kindB_33 (t : Nd) : kindB t 33 = (decide (t.kind = 33) && permF t) := by
  rw [kindB, exprB]
  by_cases h : t.kind = 33
  · rw [h]; rfl
  · rw [decide_eq_false h]; rfl
theorem kindB_or (t : Nd) : (kindB t 30 || kindB t 33) = (memK [30, 33] t.kind && permF t) := by
  rw [kindB_30, kindB_33, or_two, memK_one]; congr 1; simp [memK, Bool.or_comm]
theorem ret_len {t : Nd} : (decide ((t.kids.length : Int) ≤ 1) && t.kids.all exprB) = ((lenK t 0 || kidsB t [expK]) && t.kids.all permF) := by
  by_cases h : t.kids.length = 0
  · rw [List.length_eq_zero_iff.1 h, show lenK t 0 = true by rw [lenK, decide_eq_true_eq]; omega]; rfl
  by_cases h1 : t.kids.length = 1
  · rw [show lenK t 0 = false from lenK_f 0 h, Bool.false_or, kids_1, show decide ((t.kids.length : Int) ≤ 1) = lenK t 1 by rw [lenK, decide_eq_decide]; omega, all_1]; rfl
  · rw [show lenK t 0 = false from lenK_f 0 h, kidsB_f h1, decide_eq_false (by omega)]; rfl
theorem refStmt_eq (t : Nd) : refStmt t = stmtB t := by
  rw [stmtB]
  by_cases h : t.kind = 6
  · rw [refStmt, varB, h]; rfl
  by_cases h1 : t.kind = 10
  · rw [refStmt, blockB, h1]; rfl
  by_cases h2 : t.kind = 18
  · rw [refStmt, ifB, h2]; rfl
  by_cases h3 : t.kind = 22
  · rw [refStmt, h3]; rfl
  rw [permF_eq, locB]
  unfold refStmt textB' formB
  by_cases h4 : t.kind = 11
  · rw [h4]; exact fl1
  by_cases h5 : t.kind = 12
  · rw [h5]; exact fl2
  by_cases h6 : t.kind = 16
  · rw [h6]; exact fl2
  by_cases h7 : t.kind = 13
  · rw [h7]; refine Eq.trans ?_ (fl1 (X := plainB t) (q := memK [30, 33])); rw [← kindB_or]; rfl
  by_cases h8 : t.kind = 14
  · rw [h8]; refine Eq.trans ?_ (fl1 (X := plainB t) (q := memK [30])); rw [← kindB_30]; rfl
  by_cases h9 : t.kind = 15
  · rw [h9]; refine Eq.trans ?_ (fl1 (X := plainB t) (q := memK [30])); rw [← kindB_30]; rfl
  by_cases h10 : t.kind = 17
  · rw [h10]; exact fl1
  by_cases h11 : t.kind = 21
  · rw [h11]; exact fl1
  by_cases h12 : t.kind = 20
  · rw [h12]; refine Eq.trans (b := (plainB t && decide ((t.kids.length : Int) ≤ 1)) && t.kids.all exprB) rfl ?_
    rw [Bool.and_assoc, ret_len, ← Bool.and_assoc]; rfl
  by_cases h13 : t.kind = 19
  · rw [h13]
    refine Eq.trans (b := ((plainB t && lenK t 2) && (noneB (kidAt t 0) || exprB (kidAt t 0))) && blockB (kidAt t 1)) rfl (Eq.trans (b := ((plainB t && kidsB t [fun k => expK k || memK [9] k, memK [10]]) && t.kids.all permF)) ?_ rfl)
    rw [Bool.and_assoc (plainB t) (kidsB t _), kids_2, memK_one, memK_one, noneB_eq, show exprB (kidAt t 0) = (expK (kidAt t 0).kind && permF (kidAt t 0)) from rfl, or_two, blockB]
    ac_rfl
  simp only [stK, anyK, decide_eq_false h, decide_eq_false h1, decide_eq_false h2, decide_eq_false h3, decide_eq_false h4, decide_eq_false h5, decide_eq_false h6, decide_eq_false h7, decide_eq_false h8, decide_eq_false h9, decide_eq_false h10, decide_eq_false h11, decide_eq_false h12, decide_eq_false h13, Bool.or_false, cond_false, Bool.false_and]
end Go.Rk
namespace Go.Rk
open Go Go.RowKit
/-- What the reference says of a tree, walked. -/
structure ROk (t : Nd) : Prop where
  ex : ∀ (p : Option Addr) (c : Nat) (D : Nat → Prop) (w : World), Kd w D t.kids (.slice p t.kids.length c) → Ret PP fn_r03_IsExpr #[ndV t (.slice p t.kids.length c)] w fun r w' => r = .bool (exprB t) ∧ G w w'
  bl : ∀ (p : Option Addr) (c : Nat) (D : Nat → Prop) (w : World), Kd w D t.kids (.slice p t.kids.length c) → Ret PP fn_r03_isBlock #[ndV t (.slice p t.kids.length c)] w fun r w' => r = .bool (blockB t) ∧ G w w'
  st : ∀ (p : Option Addr) (c : Nat) (D : Nat → Prop) (w : World), Kd w D t.kids (.slice p t.kids.length c) → Ret PP fn_r03_isStmt #[ndV t (.slice p t.kids.length c)] w fun r w' => r = .bool (stmtB t) ∧ G w w'
  fi : ∀ (p : Option Addr) (c : Nat) (D : Nat → Prop) (w : World), Kd w D t.kids (.slice p t.kids.length c) → Ret PP fn_r03_isIf #[ndV t (.slice p t.kids.length c)] w fun r w' => r = .bool (ifB t) ∧ G w w'
  cm : ∀ (p : Option Addr) (c : Nat) (D : Nat → Prop) (w : World), Kd w D t.kids (.slice p t.kids.length c) → Ret PP fn_r03_isComm #[ndV t (.slice p t.kids.length c)] w fun r w' => r = .bool (commF t) ∧ G w w'
def Below (t : Nd) : Prop := ∀ k, count k < count t → ROk k
theorem Below.kid {t : Nd} (ih : Below t) {i : Nat} (h : i < t.kids.length) : ROk (kidAt t i) := by
  refine ih _ ?_
  rw [kidAt_eq h]
  have := count_mem (List.getElem_mem h); omega
theorem kd_ih {w : World} {D : Nat → Prop} {t : Nd} {p : Option Addr} {c : Nat} (hk : Kd w D t.kids (.slice p t.kids.length c)) (ih : Below t) (i : Nat) : ∃ p' c', i < t.kids.length → p = some ⟨pb p, po p, none⟩ ∧ RowAt w (pb p) (po p + i * 9) (ndCells (kidAt t i) (.slice p' (kidAt t i).kids.length c')) ∧ Kd w D (kidAt t i).kids (.slice p' (kidAt t i).kids.length c') ∧ ROk (kidAt t i) := by
  obtain ⟨p', c', h⟩ := kd_optx hk i
  exact ⟨p', c', fun hi => ⟨(h hi).1, (h hi).2.1, (h hi).2.2, ih.kid hi⟩⟩
theorem none_ok (t : Nd) (p : Option Addr) (c : Nat) (w : World) : Ret PP fn_r03_isNone #[ndV t (.slice p t.kids.length c)] w fun r w' => r = .bool (noneB t) ∧ G w w' := by
  have g := G.refl w
  refine ret_of_sc (m := 17) func_r03_isNone rfl rfl [(0, True, _)] (sub_cons rfl (sub_nil _)) ?_
  refine sc_seq fun K1 hK1 => ?_
  refine sc_text [1, 3] ?_
  refine sr_box rfl (ev_t rfl) rfl ?_
  intro b1 w1 N1
  have l1 := N1.ge g
  have g := g.trans (N1.g)
  have B1 := N1.blk
  refine sr_pu rfl (fun _ => rd_assign ev_c) ?_
  refine sr_sub [(1, _, _), (2, _, _)] (sub_cons rfl (sub_cons rfl (sub_nil _))) ?_
  refine sr_nil (hK1 _ _ ?_)
  refine sc_seq fun K2 hK2 => ?_
  refine sc_text [3, 0, 3, 3, 3, 0, 3, 3, 3, 3, 0, 3, 3, 3, 3] ?_
  refine sr_pu rfl (fun _ => rd_field fo_api_Node_0 (ev_t rfl)) ?_
  refine sr_rd rfl (rd_load one_int (ev_t rfl) (fun _ => B1.at_ rfl)) ?_
  refine sr_pu rfl (fun _ => rd_eq (ev_t rfl) ev_c) ?_
  refine sr_pu rfl (fun _ => rd_move (ev_t rfl)) ?_
  refine sr_pug rfl rfl rfl (fun _ => rd_field fo_api_Node_1 (ev_t rfl)) ?_
  refine sr_rdg rfl rfl rfl (rd_load one_string (ev_u rfl id) (fun _ => B1.at_ rfl)) ?_
  refine sr_pug rfl rfl rfl (fun _ => rd_seq (ev_u rfl id) ev_c) ?_
  refine sr_pu rfl (fun _ => rd_pick_and (ev_t rfl) (ev_u rfl id)) ?_
  refine sr_pu rfl (fun _ => rd_move (ev_t rfl)) ?_
  refine sr_pug rfl rfl rfl (fun _ => rd_field fo_api_Node_4 (ev_t rfl)) ?_
  refine sr_rdg rfl rfl rfl (rd_load one_sl_api_Node (ev_u rfl id) (fun _ => B1.at_ rfl)) ?_
  refine sr_pug rfl rfl rfl (fun _ => rd_len el_sl_api_Node (ev_u rfl id)) ?_
  refine sr_pug rfl rfl rfl (fun _ => rd_eq (ev_u rfl id) ev_c) ?_
  refine sr_pu rfl (fun _ => rd_pick_and (ev_t rfl) (ev_u rfl id)) ?_
  refine sr_pu rfl (fun _ => rd_assign (ev_t rfl)) ?_
  refine sr_sub [(2, _, _)] (sub_cons rfl (sub_nil _)) ?_
  refine sr_nil (hK2 _ _ ?_)
  refine sc_ret (t_ret1 rfl rfl ?_)
  exact ⟨rfl, g⟩
theorem exprs_ok (l : List Nd) (p : Option Addr) (c : Nat) (D : Nat → Prop) (w : World) (hk : Kd w D l (.slice p l.length c)) (hr : ∀ k ∈ l, ROk k) (hln : l.length ≤ 1000000) : Ret PP fn_r03_expressions #[.slice p l.length c] w fun r w' => r = .bool (l.all exprB) ∧ G w w' := by
  have g := G.refl w
  obtain ⟨p', c', hpe, _, hks⟩ := hk
  injection hpe with hpe _ hce
  subst hpe hce
  refine ret_of_sc (m := 16) func_r03_expressions rfl rfl [(0, True, _)] (sub_cons rfl (sub_nil _)) ?_
  refine sc_seq fun K1 hK1 => ?_
  refine sc_text [3] ?_
  refine sr_pu rfl (fun _ => rd_assign ev_c) ?_
  refine sr_nil (hK1 _ _ ?_)
  refine sc_seq fun K2 hK2 => ?_
  refine sc_seq fun K3 hK3 => ?_
  refine sc_text [3] ?_
  refine sr_pu rfl (fun _ => rd_assign ev_c) ?_
  refine sr_nil (hK3 _ _ ?_)
  refine sc_block ?_
  refine sc_loop2 (fun (i : Nat) u1 => (i ≤ l.length ∧ ∀ j, (h : j < l.length) → j < i → exprB l[j] = true) ∧ G w u1) [(0, True, _)] (fun (i : Nat) => [(3, True, .int .i64 i)]) (fun (i : Nat) => l.length - i) (0) ⟨⟨Nat.zero_le _, fun j _ hj => absurd hj (Nat.not_lt_zero j)⟩, G.refl _⟩ (sub_cons rfl (sub_cons rfl (sub_nil _))) ?_
  rintro i u1 ⟨hI1, gl1⟩
  have g := g.trans gl1
  refine sc_seq fun K4 hK4 => ?_
  refine sc_seq fun K5 hK5 => ?_
  refine sc_text [3, 3, 3, 3] ?_
  refine sr_pu rfl (fun _ => rd_move (ev_t rfl)) ?_
  refine sr_pu rfl (fun _ => rd_move (ev_t rfl)) ?_
  refine sr_pu rfl (fun _ => rd_len el_sl_api_Node (ev_t rfl)) ?_
  refine sr_pu rfl (fun _ => rd_lt (ev_t rfl) (ev_t rfl)) ?_
  refine sr_sub [(0, _, _), (3, _, _), (7, _, _)] (sub_cons rfl (sub_cons rfl (sub_cons rfl (sub_nil _)))) ?_
  refine sr_nil (hK5 _ _ ?_)
  refine sc_cond (ev_t rfl) (fun h1 => ?_) (fun h1 => ?_)
  · replace h1 : i < l.length := by simp only [decide_eq_true_eq] at h1; omega
    obtain ⟨b, o, rfl, hD, xs, hR, hX⟩ := hks (by omega)
    obtain ⟨p', c', hcell, hkid⟩ := kd_at hR hX h1
    refine sc_skip (hK4 _ _ ?_)
    refine sc_sub [(0, _, _), (3, _, _)] (sub_cons rfl (sub_cons rfl (sub_nil _))) ?_
    refine sc_seq fun K6 hK6 => ?_
    refine sc_block ?_
    refine sc_seq fun K7 hK7 => ?_
    refine sc_text [3, 3, 3, 0, 1, 3] ?_
    refine sr_pu rfl (fun _ => rd_move (ev_t rfl)) ?_
    refine sr_pu rfl (fun _ => rd_move (ev_t rfl)) ?_
    refine sr_pu rfl (fun _ => rd_idx el_sl_api_Node (ev_t rfl) (ev_t rfl) (fun _ => by omega)) ?_
    refine sr_rd rfl (rd_loads agg_api_Node (ev_t rfl) rfl (fun _ => hcell.grow g)) ?_
    refine sr_pure rfl (rc_call go_r03_IsExpr ev_f (args_cons (ev_t rfl) (args_nil)) rfl) ((hr _ (List.getElem_mem h1)).ex _ _ D _ (hkid.grow g)) (fun w14 g14 => ?_)
    have g := g.trans (g14)
    try have gl1 := gl1.trans (g14)
    refine sr_pu rfl (fun _ => rd_not (ev_t rfl)) ?_
    refine sr_sub [(0, _, _), (3, _, _), (15, _, _)] (sub_cons rfl (sub_cons rfl (sub_cons rfl (sub_nil _)))) ?_
    refine sr_nil (hK7 _ _ ?_)
    refine sc_cond (ev_t rfl) (fun h2 => ?_) (fun h2 => ?_)
    · (try simp only [bsimp] at h2)
      refine sc_seq fun K8 hK8 => ?_
      refine sc_text [3] ?_
      refine sr_pu rfl (fun _ => rd_assign ev_c) ?_
      refine sr_sub [(0, _, _), (2, _, _), (3, _, _)] (sub_cons rfl (sub_cons rfl (sub_cons rfl (sub_nil _)))) ?_
      refine sr_nil (hK8 _ _ ?_)
      refine sc_ret (t_ret1 rfl rfl ?_)
      refine ⟨congrArg Value.bool ?_, g⟩
      rw [eq_comm, List.all_eq_false]
      exact ⟨_, List.getElem_mem h1, by simpa using h2⟩
    (try simp only [bsimp] at h2)
    refine sc_skip (hK6 _ _ ?_)
    refine sc_sub [(0, _, _), (3, _, _)] (sub_cons rfl (sub_cons rfl (sub_nil _))) ?_
    refine sc_text [3, 3, 3] ?_
    refine sr_pu rfl (fun _ => rd_move (ev_t rfl)) ?_
    refine sr_pu rfl (fun _ => rd_add (ev_t rfl) ev_c (fun _ => by omega)) ?_
    refine sr_pu rfl (fun _ => rd_assign (ev_t rfl)) ?_
    refine sr_sub [(3, _, _), (0, _, _)] (sub_cons rfl (sub_cons rfl (sub_nil _))) ?_
    refine sr_nil (fun a ha => ?_)
    refine ⟨i + 1, ha, ⟨⟨h1, fun j h hj => ?_⟩, gl1⟩, by omega⟩
    by_cases e : j = i
    · subst e; simpa using h2
    · exact hI1.2 j h (by omega)
  (try simp only [bsimp] at h1)
  refine sc_exit rfl (hK2 _ _ ?_)
  refine sc_sub [] (sub_nil _) ?_
  refine sc_seq fun K9 hK9 => ?_
  refine sc_text [3] ?_
  refine sr_pu rfl (fun _ => rd_assign ev_c) ?_
  refine sr_nil (hK9 _ _ ?_)
  refine sc_ret (t_ret1 rfl rfl ?_)
  refine ⟨congrArg Value.bool ?_, g⟩
  rw [eq_comm, List.all_eq_true]
  intro x hx
  obtain ⟨j, hj, rfl⟩ := List.getElem_of_mem hx
  exact hI1.2 j hj (by simp only [decide_eq_false_iff_not] at h1; omega)
theorem kind_ok (t : Nd) (n : Int) (p : Option Addr) (c : Nat) (D : Nat → Prop) (w : World) (hk : Kd w D t.kids (.slice p t.kids.length c)) (h : ROk t) : Ret PP fn_r03_kind #[ndV t (.slice p t.kids.length c), .int .i64 n] w fun r w' => r = .bool (kindB t n) ∧ G w w' := by
  have g := G.refl w
  refine ret_of_sc (m := 13) func_r03_kind rfl rfl [(0, True, _), (1, True, _)] (sub_cons rfl (sub_cons rfl (sub_nil _))) ?_
  refine sc_seq fun K1 hK1 => ?_
  refine sc_text [1, 3] ?_
  refine sr_box rfl (ev_t rfl) rfl ?_
  intro b2 w2 N2
  have l2 := N2.ge g
  have g := g.trans (N2.g)
  have B2 := N2.blk
  refine sr_pu rfl (fun _ => rd_assign ev_c) ?_
  refine sr_sub [(1, _, _), (2, _, _), (4, _, _)] (sub_cons rfl (sub_cons rfl (sub_cons rfl (sub_nil _)))) ?_
  refine sr_nil (hK1 _ _ ?_)
  refine sc_seq fun K2 hK2 => ?_
  refine sc_text [3, 0, 3, 3, 3, 0, 1, 3, 3] ?_
  refine sr_pu rfl (fun _ => rd_field fo_api_Node_0 (ev_t rfl)) ?_
  refine sr_rd rfl (rd_load one_int (ev_t rfl) (fun _ => B2.at_ rfl)) ?_
  refine sr_pu rfl (fun _ => rd_move (ev_t rfl)) ?_
  refine sr_pu rfl (fun _ => rd_eq (ev_t rfl) (ev_t rfl)) ?_
  refine sr_pu rfl (fun _ => rd_move (ev_t rfl)) ?_
  refine sr_rdg rfl rfl rfl (rd_loads agg_api_Node (ev_t rfl) rfl (fun _ => B2.row)) ?_
  refine sr_pureg rfl rfl rfl (fun _ => (rc_call go_r03_IsExpr ev_f (args_cons (ev_u rfl id) (args_nil)) rfl)) (fun hc => h.ex _ _ D _ (hk.grow g)) (fun w11 g11 => ?_)
  have g := g.trans (g11)
  replace B2 := B2.grow (g11)
  refine sr_pu rfl (fun _ => rd_pick_and (ev_t rfl) (ev_u rfl id)) ?_
  refine sr_pu rfl (fun _ => rd_assign (ev_t rfl)) ?_
  refine sr_sub [(4, _, _)] (sub_cons rfl (sub_nil _)) ?_
  refine sr_nil (hK2 _ _ ?_)
  refine sc_ret (t_ret1 rfl rfl ?_)
  exact ⟨rfl, g⟩
theorem isexpr_ok (t : Nd) (p : Option Addr) (c : Nat) (D : Nat → Prop) (w : World) (hk : Kd w D t.kids (.slice p t.kids.length c)) (ih : Below t) (hln : t.kids.length ≤ 1000000) : Ret PP fn_r03_IsExpr #[ndV t (.slice p t.kids.length c)] w fun r w' => r = .bool (exprB t) ∧ G w w' := by
  rw [← refExpr_eq]
  have g := G.refl w
  obtain ⟨p0, c0, h0x⟩ := kd_ih hk ih 0
  have hr : ∀ k ∈ t.kids, ROk k := fun k hk => ih k (count_mem hk)
  refine ret_of_sc (m := 165) func_r03_IsExpr rfl rfl [(0, True, _)] (sub_cons rfl (sub_nil _)) ?_
  refine sc_seq fun K1 hK1 => ?_
  refine sc_text [1, 3] ?_
  refine sr_box rfl (ev_t rfl) rfl ?_
  intro b1 w1 N1
  have l1 := N1.ge g
  have g := g.trans (N1.g)
  have B1 := N1.blk
  refine sr_pu rfl (fun _ => rd_assign ev_c) ?_
  refine sr_sub [(1, _, _), (2, _, _)] (sub_cons rfl (sub_cons rfl (sub_nil _))) ?_
  refine sr_nil (hK1 _ _ ?_)
  refine sc_seq fun K2 hK2 => ?_
  refine sc_text [3, 0, 3, 3] ?_
  refine sr_pu rfl (fun _ => rd_field fo_api_Node_4 (ev_t rfl)) ?_
  refine sr_rd rfl (rd_load one_sl_api_Node (ev_t rfl) (fun _ => B1.at_ rfl)) ?_
  refine sr_pu rfl (fun _ => rd_len el_sl_api_Node (ev_t rfl)) ?_
  refine sr_pu rfl (fun _ => rd_assign (ev_t rfl)) ?_
  refine sr_sub [(1, _, _), (2, _, _), (3, _, _)] (sub_cons rfl (sub_cons rfl (sub_cons rfl (sub_nil _)))) ?_
  refine sr_nil (hK2 _ _ ?_)
  refine sc_seq fun K3 hK3 => ?_
  refine sc_text [3, 0, 3, 3] ?_
  refine sr_pu rfl (fun _ => rd_field fo_api_Node_1 (ev_t rfl)) ?_
  refine sr_rd rfl (rd_load one_string (ev_t rfl) (fun _ => B1.at_ rfl)) ?_
  refine sr_pu rfl (fun _ => rd_seq (ev_t rfl) ev_c) ?_
  refine sr_pu rfl (fun _ => rd_assign (ev_t rfl)) ?_
  refine sr_sub [(1, _, _), (2, _, _), (3, _, _), (4, _, _)] (sub_cons rfl (sub_cons rfl (sub_cons rfl (sub_cons rfl (sub_nil _))))) ?_
  refine sr_nil (hK3 _ _ ?_)
  refine sc_seq fun K4 hK4 => ?_
  refine sc_seq fun K5 hK5 => ?_
  refine sc_text [3, 0] ?_
  refine sr_pu rfl (fun _ => rd_field fo_api_Node_0 (ev_t rfl)) ?_
  refine sr_rd rfl (rd_load one_int (ev_t rfl) (fun _ => B1.at_ rfl)) ?_
  refine sr_sub [(1, _, _), (2, _, _), (3, _, _), (4, _, _), (12, _, _)] (sub_cons rfl (sub_cons rfl (sub_cons rfl (sub_cons rfl (sub_cons rfl (sub_nil _)))))) ?_
  refine sr_nil (hK5 _ _ ?_)
  refine sc_block ?_
  refine sc_seq fun K6 hK6 => ?_
  refine sc_text [3, 3] ?_
  refine sr_pu rfl (fun _ => rd_eq (ev_t rfl) ev_c) ?_
  refine sr_pu rfl (fun _ => rd_assign (ev_t rfl)) ?_
  refine sr_sub [(1, _, _), (2, _, _), (3, _, _), (4, _, _), (12, _, _), (13, _, _)] (sub_cons rfl (sub_cons rfl (sub_cons rfl (sub_cons rfl (sub_cons rfl (sub_cons rfl (sub_nil _))))))) ?_
  refine sr_nil (hK6 _ _ ?_)
  refine sc_cond (ev_t rfl) (fun h1 => ?_) (fun h1 => ?_)
  · (try simp only [bsimp] at h1)
    refine sc_seq fun K7 hK7 => ?_
    refine sc_text [3, 3, 3, 3, 3, 3, 3, 0, 3, 3, 3] ?_
    refine sr_pu rfl (fun _ => rd_move (ev_t rfl)) ?_
    refine sr_pu rfl (fun _ => rd_move (ev_t rfl)) ?_
    refine sr_pug rfl rfl rfl (fun _ => rd_move (ev_t rfl)) ?_
    refine sr_pug rfl rfl rfl (fun _ => rd_eq (ev_u rfl id) ev_c) ?_
    refine sr_pu rfl (fun _ => rd_pick_and (ev_t rfl) (ev_u rfl id)) ?_
    refine sr_pu rfl (fun _ => rd_move (ev_t rfl)) ?_
    refine sr_pug rfl rfl rfl (fun _ => rd_field fo_api_Node_2 (ev_t rfl)) ?_
    refine sr_rdg rfl rfl rfl (rd_load one_int (ev_u rfl id) (fun _ => B1.at_ rfl)) ?_
    refine sr_pug rfl rfl rfl (fun _ => rd_ge (ev_u rfl id) ev_c) ?_
    refine sr_pu rfl (fun _ => rd_pick_and (ev_t rfl) (ev_u rfl id)) ?_
    refine sr_pu rfl (fun _ => rd_assign (ev_t rfl)) ?_
    refine sr_sub [(2, _, _)] (sub_cons rfl (sub_nil _)) ?_
    refine sr_nil (hK7 _ _ ?_)
    refine sc_ret (t_ret1 rfl rfl ?_)
    refine ⟨congrArg Value.bool ?_, g⟩
    unfold refExpr; simp only [anyK, h1, cond_true, cond_false] <;> rfl
  (try simp only [bsimp] at h1)
  refine sc_seq fun K8 hK8 => ?_
  refine sc_text [3, 3] ?_
  refine sr_pu rfl (fun _ => rd_eq (ev_t rfl) ev_c) ?_
  refine sr_pu rfl (fun _ => rd_assign (ev_t rfl)) ?_
  refine sr_sub [(1, _, _), (2, _, _), (3, _, _), (4, _, _), (12, _, _), (25, _, _)] (sub_cons rfl (sub_cons rfl (sub_cons rfl (sub_cons rfl (sub_cons rfl (sub_cons rfl (sub_nil _))))))) ?_
  refine sr_nil (hK8 _ _ ?_)
  refine sc_cond (ev_t rfl) (fun h2 => ?_) (fun h2 => ?_)
  · (try simp only [bsimp] at h2)
    refine sc_seq fun K9 hK9 => ?_
    refine sc_text [3, 3, 3, 3, 3, 3, 3, 0, 3, 3, 3, 0, 3, 3, 3, 3] ?_
    refine sr_pu rfl (fun _ => rd_move (ev_t rfl)) ?_
    refine sr_pu rfl (fun _ => rd_move (ev_t rfl)) ?_
    refine sr_pug rfl rfl rfl (fun _ => rd_move (ev_t rfl)) ?_
    refine sr_pug rfl rfl rfl (fun _ => rd_eq (ev_u rfl id) ev_c) ?_
    refine sr_pu rfl (fun _ => rd_pick_and (ev_t rfl) (ev_u rfl id)) ?_
    refine sr_pu rfl (fun _ => rd_move (ev_t rfl)) ?_
    refine sr_pug rfl rfl rfl (fun _ => rd_field fo_api_Node_2 (ev_t rfl)) ?_
    refine sr_rdg rfl rfl rfl (rd_load one_int (ev_u rfl id) (fun _ => B1.at_ rfl)) ?_
    refine sr_pug rfl rfl rfl (fun _ => rd_eq (ev_u rfl id) ev_c) ?_
    refine sr_pug rfl rfl rfl (fun _ => rd_move (ev_u rfl id)) ?_
    refine sr_pug rfl rfl rfl (fun _ => rd_field fo_api_Node_2 (ev_t rfl)) ?_
    refine sr_rdg rfl rfl rfl (rd_load one_int (ev_u rfl id) (fun _ => B1.at_ rfl)) ?_
    refine sr_pug rfl rfl rfl (fun _ => rd_eq (ev_u rfl id) ev_c) ?_
    refine sr_pug rfl rfl rfl (fun _ => rd_pick_or (ev_u rfl id) (ev_u rfl id)) ?_
    refine sr_pu rfl (fun _ => rd_pick_and (ev_t rfl) (ev_u rfl id)) ?_
    refine sr_pu rfl (fun _ => rd_assign (ev_t rfl)) ?_
    refine sr_sub [(2, _, _)] (sub_cons rfl (sub_nil _)) ?_
    refine sr_nil (hK9 _ _ ?_)
    refine sc_ret (t_ret1 rfl rfl ?_)
    refine ⟨congrArg Value.bool ?_, g⟩
    unfold refExpr; simp only [anyK, h1, h2, cond_true, cond_false] <;> rfl
  (try simp only [bsimp] at h2)
  refine sc_seq fun K10 hK10 => ?_
  refine sc_text [3, 3] ?_
  refine sr_pu rfl (fun _ => rd_eq (ev_t rfl) ev_c) ?_
  refine sr_pu rfl (fun _ => rd_assign (ev_t rfl)) ?_
  refine sr_sub [(1, _, _), (2, _, _), (3, _, _), (4, _, _), (12, _, _), (42, _, _)] (sub_cons rfl (sub_cons rfl (sub_cons rfl (sub_cons rfl (sub_cons rfl (sub_cons rfl (sub_nil _))))))) ?_
  refine sr_nil (hK10 _ _ ?_)
  refine sc_cond (ev_t rfl) (fun h3 => ?_) (fun h3 => ?_)
  · (try simp only [bsimp] at h3)
    refine sc_seq fun K11 hK11 => ?_
    refine sc_text [3, 3, 3, 3, 3, 3] ?_
    refine sr_pu rfl (fun _ => rd_move (ev_t rfl)) ?_
    refine sr_pu rfl (fun _ => rd_move (ev_t rfl)) ?_
    refine sr_pug rfl rfl rfl (fun _ => rd_move (ev_t rfl)) ?_
    refine sr_pug rfl rfl rfl (fun _ => rd_eq (ev_u rfl id) ev_c) ?_
    refine sr_pu rfl (fun _ => rd_pick_and (ev_t rfl) (ev_u rfl id)) ?_
    refine sr_pu rfl (fun _ => rd_assign (ev_t rfl)) ?_
    refine sr_sub [(2, _, _)] (sub_cons rfl (sub_nil _)) ?_
    refine sr_nil (hK11 _ _ ?_)
    refine sc_ret (t_ret1 rfl rfl ?_)
    refine ⟨congrArg Value.bool ?_, g⟩
    unfold refExpr; simp only [anyK, h1, h2, h3, cond_true, cond_false] <;> rfl
  (try simp only [bsimp] at h3)
  refine sc_seq fun K12 hK12 => ?_
  refine sc_seq fun K13 hK13 => ?_
  refine sc_text [3, 3] ?_
  refine sr_pu rfl (fun _ => rd_eq (ev_t rfl) ev_c) ?_
  refine sr_pu rfl (fun _ => rd_assign (ev_t rfl)) ?_
  refine sr_sub [(1, _, _), (2, _, _), (3, _, _), (4, _, _), (12, _, _), (49, _, _)] (sub_cons rfl (sub_cons rfl (sub_cons rfl (sub_cons rfl (sub_cons rfl (sub_cons rfl (sub_nil _))))))) ?_
  refine sr_nil (hK13 _ _ ?_)
  refine' sc_or [(1, _, _), (2, _, _), (3, _, _), (4, _, _), (12, _, _)] (sub_cons rfl (sub_cons rfl (sub_cons rfl (sub_cons rfl (sub_cons rfl (sub_cons rfl (sub_nil _))))))) rfl (fun hb4 => ?y4) (hK12 _ _ ?n4)
  case y4 =>
   refine sc_text [3, 3] ?_
   refine sr_pu rfl (fun _ => rd_eq (ev_t rfl) ev_c) ?_
   refine sr_pu rfl (fun _ => rd_assign (ev_t rfl)) ?_
   refine sr_sub [(49, _, _), (1, _, _), (2, _, _), (3, _, _), (4, _, _), (12, _, _)] (sub_cons rfl (sub_cons rfl (sub_cons rfl (sub_cons rfl (sub_cons rfl (sub_cons rfl (sub_nil _))))))) ?_
   exact sr_nil (fun a ha => ⟨ha, rfl⟩)
  case n4 =>
   refine sc_cond (ev_t rfl) (fun h5 => ?_) (fun h5 => ?_)
   · (try simp only [bsimp] at h5)
     refine sc_seq fun K14 hK14 => ?_
     refine sc_text [3, 0, 1, 3, 3, 3, 3, 3] ?_
     refine sr_pu rfl (fun _ => rd_field fo_api_Node_1 (ev_t rfl)) ?_
     refine sr_rd rfl (rd_load one_string (ev_t rfl) (fun _ => B1.at_ rfl)) ?_
     refine sr_pure rfl (rc_call go_r02_Name ev_f (args_cons (ev_t rfl) (args_nil)) rfl) (rname_ok _ _) (fun w54 g54 => ?_)
     have g := g.trans (g54)
     replace B1 := B1.grow (g54)
     refine sr_pu rfl (fun _ => rd_move (ev_t rfl)) ?_
     refine sr_pug rfl rfl rfl (fun _ => rd_move (ev_t rfl)) ?_
     refine sr_pug rfl rfl rfl (fun _ => rd_eq (ev_u rfl id) ev_c) ?_
     refine sr_pu rfl (fun _ => rd_pick_and (ev_t rfl) (ev_u rfl id)) ?_
     refine sr_pu rfl (fun _ => rd_assign (ev_t rfl)) ?_
     refine sr_sub [(2, _, _)] (sub_cons rfl (sub_nil _)) ?_
     refine sr_nil (hK14 _ _ ?_)
     refine sc_ret (t_ret1 rfl rfl ?_)
     refine ⟨congrArg Value.bool ?_, g⟩
     unfold refExpr; simp only [anyK, h1, h2, h3, h5, cond_true, cond_false] <;> rfl
   (try simp only [bsimp] at h5)
   refine sc_seq fun K15 hK15 => ?_
   refine sc_text [3, 3] ?_
   refine sr_pu rfl (fun _ => rd_eq (ev_t rfl) ev_c) ?_
   refine sr_pu rfl (fun _ => rd_assign (ev_t rfl)) ?_
   refine sr_sub [(1, _, _), (2, _, _), (3, _, _), (4, _, _), (12, _, _), (59, _, _)] (sub_cons rfl (sub_cons rfl (sub_cons rfl (sub_cons rfl (sub_cons rfl (sub_cons rfl (sub_nil _))))))) ?_
   refine sr_nil (hK15 _ _ ?_)
   refine sc_cond (ev_t rfl) (fun h6 => ?_) (fun h6 => ?_)
   · (try simp only [bsimp] at h6)
     refine sc_seq fun K16 hK16 => ?_
     refine sc_text [3, 0, 1, 3, 3, 3, 3, 3, 3, 0, 3, 0, 1, 3, 3] ?_
     refine sr_pu rfl (fun _ => rd_field fo_api_Node_1 (ev_t rfl)) ?_
     refine sr_rd rfl (rd_load one_string (ev_t rfl) (fun _ => B1.at_ rfl)) ?_
     refine sr_pure rfl (rc_call go_r02_Name ev_f (args_cons (ev_t rfl) (args_nil)) rfl) (rname_ok _ _) (fun w63 g63 => ?_)
     have g := g.trans (g63)
     replace B1 := B1.grow (g63)
     refine sr_pu rfl (fun _ => rd_move (ev_t rfl)) ?_
     refine sr_pug rfl rfl rfl (fun _ => rd_move (ev_t rfl)) ?_
     refine sr_pug rfl rfl rfl (fun _ => rd_eq (ev_u rfl id) ev_c) ?_
     refine sr_pu rfl (fun _ => rd_pick_and (ev_t rfl) (ev_u rfl id)) ?_
     refine sr_pu rfl (fun _ => rd_move (ev_t rfl)) ?_
     refine sr_pug rfl rfl rfl (fun _ => rd_field fo_api_Node_4 (ev_t rfl)) ?_
     refine sr_rdg rfl rfl rfl (rd_load one_sl_api_Node (ev_u rfl id) (fun _ => B1.at_ rfl)) ?_
     refine sr_pug rfl rfl rfl (fun _ => rd_idxq el_sl_api_Node (ev_u rfl id) ev_c (fun hc => by (have hz := hc.2; first | (unfold lenK at hz; simp at hz; omega) | (simp at hz; omega))) (fun hc => (h0x (by (have hz := hc.2; first | (unfold lenK at hz; simp at hz; omega) | (simp at hz; omega)))).1)) ?_
     refine sr_rdg rfl rfl rfl (rd_loads agg_api_Node (ev_u rfl id) rfl (fun hc => (h0x (by (have hz := hc.2; first | (unfold lenK at hz; simp at hz; omega) | (simp at hz; omega)))).2.1.grow g)) ?_
     refine sr_pureg rfl rfl rfl (fun _ => (rc_call go_r03_IsExpr ev_f (args_cons (ev_u rfl id) (args_nil)) rfl)) (fun hc => (h0x (by (have hz := hc.2; first | (unfold lenK at hz; simp at hz; omega) | (simp at hz; omega)))).2.2.2.ex _ _ D _ ((h0x (by (have hz := hc.2; first | (unfold lenK at hz; simp at hz; omega) | (simp at hz; omega)))).2.2.1.grow g)) (fun w73 g73 => ?_)
     have g := g.trans (g73)
     replace B1 := B1.grow (g73)
     refine sr_pu rfl (fun _ => rd_pick_and (ev_t rfl) (ev_u rfl id)) ?_
     refine sr_pu rfl (fun _ => rd_assign (ev_t rfl)) ?_
     refine sr_sub [(2, _, _)] (sub_cons rfl (sub_nil _)) ?_
     refine sr_nil (hK16 _ _ ?_)
     refine sc_ret (t_ret1 rfl rfl ?_)
     refine ⟨congrArg Value.bool ?_, g⟩
     unfold refExpr; simp only [anyK, h1, h2, h3, h5, h6, cond_true, cond_false] <;> rfl
   (try simp only [bsimp] at h6)
   refine sc_seq fun K17 hK17 => ?_
   refine sc_text [3, 3] ?_
   refine sr_pu rfl (fun _ => rd_eq (ev_t rfl) ev_c) ?_
   refine sr_pu rfl (fun _ => rd_assign (ev_t rfl)) ?_
   refine sr_sub [(1, _, _), (2, _, _), (3, _, _), (4, _, _), (12, _, _), (75, _, _)] (sub_cons rfl (sub_cons rfl (sub_cons rfl (sub_cons rfl (sub_cons rfl (sub_cons rfl (sub_nil _))))))) ?_
   refine sr_nil (hK17 _ _ ?_)
   refine sc_cond (ev_t rfl) (fun h7 => ?_) (fun h7 => ?_)
   · (try simp only [bsimp] at h7)
     refine sc_seq fun K18 hK18 => ?_
     refine sc_text [3, 3, 3, 3, 3, 3, 3, 0, 1, 3, 3] ?_
     refine sr_pu rfl (fun _ => rd_move (ev_t rfl)) ?_
     refine sr_pu rfl (fun _ => rd_move (ev_t rfl)) ?_
     refine sr_pug rfl rfl rfl (fun _ => rd_move (ev_t rfl)) ?_
     refine sr_pug rfl rfl rfl (fun _ => rd_eq (ev_u rfl id) ev_c) ?_
     refine sr_pu rfl (fun _ => rd_pick_and (ev_t rfl) (ev_u rfl id)) ?_
     refine sr_pu rfl (fun _ => rd_move (ev_t rfl)) ?_
     refine sr_pug rfl rfl rfl (fun _ => rd_field fo_api_Node_4 (ev_t rfl)) ?_
     refine sr_rdg rfl rfl rfl (rd_load one_sl_api_Node (ev_u rfl id) (fun _ => B1.at_ rfl)) ?_
     refine sr_pureg rfl rfl rfl (fun _ => (rc_call go_r03_expressions ev_f (args_cons (ev_u rfl id) (args_nil)) rfl)) (fun hc => exprs_ok _ _ _ D _ (hk.grow g) hr hln) (fun w85 g85 => ?_)
     have g := g.trans (g85)
     replace B1 := B1.grow (g85)
     refine sr_pu rfl (fun _ => rd_pick_and (ev_t rfl) (ev_u rfl id)) ?_
     refine sr_pu rfl (fun _ => rd_assign (ev_t rfl)) ?_
     refine sr_sub [(2, _, _)] (sub_cons rfl (sub_nil _)) ?_
     refine sr_nil (hK18 _ _ ?_)
     refine sc_ret (t_ret1 rfl rfl ?_)
     refine ⟨congrArg Value.bool ?_, g⟩
     unfold refExpr; simp only [anyK, h1, h2, h3, h5, h6, h7, cond_true, cond_false] <;> rfl
   (try simp only [bsimp] at h7)
   refine sc_seq fun K19 hK19 => ?_
   refine sc_text [3, 3] ?_
   refine sr_pu rfl (fun _ => rd_eq (ev_t rfl) ev_c) ?_
   refine sr_pu rfl (fun _ => rd_assign (ev_t rfl)) ?_
   refine sr_sub [(1, _, _), (2, _, _), (3, _, _), (4, _, _), (12, _, _), (87, _, _)] (sub_cons rfl (sub_cons rfl (sub_cons rfl (sub_cons rfl (sub_cons rfl (sub_cons rfl (sub_nil _))))))) ?_
   refine sr_nil (hK19 _ _ ?_)
   refine sc_cond (ev_t rfl) (fun h8 => ?_) (fun h8 => ?_)
   · (try simp only [bsimp] at h8)
     refine sc_seq fun K20 hK20 => ?_
     refine sc_text [3, 3, 3, 3, 3, 3, 3, 0, 1, 3, 3] ?_
     refine sr_pu rfl (fun _ => rd_move (ev_t rfl)) ?_
     refine sr_pu rfl (fun _ => rd_move (ev_t rfl)) ?_
     refine sr_pug rfl rfl rfl (fun _ => rd_move (ev_t rfl)) ?_
     refine sr_pug rfl rfl rfl (fun _ => rd_ge (ev_u rfl id) ev_c) ?_
     refine sr_pu rfl (fun _ => rd_pick_and (ev_t rfl) (ev_u rfl id)) ?_
     refine sr_pu rfl (fun _ => rd_move (ev_t rfl)) ?_
     refine sr_pug rfl rfl rfl (fun _ => rd_field fo_api_Node_4 (ev_t rfl)) ?_
     refine sr_rdg rfl rfl rfl (rd_load one_sl_api_Node (ev_u rfl id) (fun _ => B1.at_ rfl)) ?_
     refine sr_pureg rfl rfl rfl (fun _ => (rc_call go_r03_expressions ev_f (args_cons (ev_u rfl id) (args_nil)) rfl)) (fun hc => exprs_ok _ _ _ D _ (hk.grow g) hr hln) (fun w97 g97 => ?_)
     have g := g.trans (g97)
     replace B1 := B1.grow (g97)
     refine sr_pu rfl (fun _ => rd_pick_and (ev_t rfl) (ev_u rfl id)) ?_
     refine sr_pu rfl (fun _ => rd_assign (ev_t rfl)) ?_
     refine sr_sub [(2, _, _)] (sub_cons rfl (sub_nil _)) ?_
     refine sr_nil (hK20 _ _ ?_)
     refine sc_ret (t_ret1 rfl rfl ?_)
     refine ⟨congrArg Value.bool ?_, g⟩
     unfold refExpr; simp only [anyK, h1, h2, h3, h5, h6, h7, h8, cond_true, cond_false] <;> rfl
   (try simp only [bsimp] at h8)
   refine sc_seq fun K21 hK21 => ?_
   refine sc_text [3, 3] ?_
   refine sr_pu rfl (fun _ => rd_eq (ev_t rfl) ev_c) ?_
   refine sr_pu rfl (fun _ => rd_assign (ev_t rfl)) ?_
   refine sr_sub [(1, _, _), (2, _, _), (3, _, _), (4, _, _), (12, _, _), (99, _, _)] (sub_cons rfl (sub_cons rfl (sub_cons rfl (sub_cons rfl (sub_cons rfl (sub_cons rfl (sub_nil _))))))) ?_
   refine sr_nil (hK21 _ _ ?_)
   refine sc_cond (ev_t rfl) (fun h9 => ?_) (fun h9 => ?_)
   · (try simp only [bsimp] at h9)
     refine sc_seq fun K22 hK22 => ?_
     refine sc_text [3, 0, 3, 3, 3, 0, 3, 3, 3, 3, 3, 3, 3, 3, 0, 3, 0, 1, 3, 3] ?_
     refine sr_pu rfl (fun _ => rd_field fo_api_Node_1 (ev_t rfl)) ?_
     refine sr_rd rfl (rd_load one_string (ev_t rfl) (fun _ => B1.at_ rfl)) ?_
     refine sr_pu rfl (fun _ => rd_seq (ev_t rfl) ev_c) ?_
     refine sr_pu rfl (fun _ => rd_move (ev_t rfl)) ?_
     refine sr_pug rfl rfl rfl (fun _ => rd_field fo_api_Node_1 (ev_t rfl)) ?_
     refine sr_rdg rfl rfl rfl (rd_load one_string (ev_u rfl id) (fun _ => B1.at_ rfl)) ?_
     refine sr_pug rfl rfl rfl (fun _ => rd_seq (ev_u rfl id) ev_c) ?_
     refine sr_pu rfl (fun _ => rd_pick_or (ev_t rfl) (ev_u rfl id)) ?_
     refine sr_pu rfl (fun _ => rd_move (ev_t rfl)) ?_
     refine sr_pug rfl rfl rfl (fun _ => rd_move (ev_t rfl)) ?_
     refine sr_pug rfl rfl rfl (fun _ => rd_eq (ev_u rfl id) ev_c) ?_
     refine sr_pu rfl (fun _ => rd_pick_and (ev_t rfl) (ev_u rfl id)) ?_
     refine sr_pu rfl (fun _ => rd_move (ev_t rfl)) ?_
     refine sr_pug rfl rfl rfl (fun _ => rd_field fo_api_Node_4 (ev_t rfl)) ?_
     refine sr_rdg rfl rfl rfl (rd_load one_sl_api_Node (ev_u rfl id) (fun _ => B1.at_ rfl)) ?_
     refine sr_pug rfl rfl rfl (fun _ => rd_idxq el_sl_api_Node (ev_u rfl id) ev_c (fun hc => by (have hz := hc.2; first | (unfold lenK at hz; simp at hz; omega) | (simp at hz; omega))) (fun hc => (h0x (by (have hz := hc.2; first | (unfold lenK at hz; simp at hz; omega) | (simp at hz; omega)))).1)) ?_
     refine sr_rdg rfl rfl rfl (rd_loads agg_api_Node (ev_u rfl id) rfl (fun hc => (h0x (by (have hz := hc.2; first | (unfold lenK at hz; simp at hz; omega) | (simp at hz; omega)))).2.1.grow g)) ?_
     refine sr_pureg rfl rfl rfl (fun _ => (rc_call go_r03_IsExpr ev_f (args_cons (ev_u rfl id) (args_nil)) rfl)) (fun hc => (h0x (by (have hz := hc.2; first | (unfold lenK at hz; simp at hz; omega) | (simp at hz; omega)))).2.2.2.ex _ _ D _ ((h0x (by (have hz := hc.2; first | (unfold lenK at hz; simp at hz; omega) | (simp at hz; omega)))).2.2.1.grow g)) (fun w118 g118 => ?_)
     have g := g.trans (g118)
     replace B1 := B1.grow (g118)
     refine sr_pu rfl (fun _ => rd_pick_and (ev_t rfl) (ev_u rfl id)) ?_
     refine sr_pu rfl (fun _ => rd_assign (ev_t rfl)) ?_
     refine sr_sub [(2, _, _)] (sub_cons rfl (sub_nil _)) ?_
     refine sr_nil (hK22 _ _ ?_)
     refine sc_ret (t_ret1 rfl rfl ?_)
     refine ⟨congrArg Value.bool ?_, g⟩
     unfold refExpr; simp only [anyK, h1, h2, h3, h5, h6, h7, h8, h9, cond_true, cond_false] <;> rfl
   (try simp only [bsimp] at h9)
   refine sc_seq fun K23 hK23 => ?_
   refine sc_text [3, 3] ?_
   refine sr_pu rfl (fun _ => rd_eq (ev_t rfl) ev_c) ?_
   refine sr_pu rfl (fun _ => rd_assign (ev_t rfl)) ?_
   refine sr_sub [(1, _, _), (2, _, _), (3, _, _), (4, _, _), (12, _, _), (120, _, _)] (sub_cons rfl (sub_cons rfl (sub_cons rfl (sub_cons rfl (sub_cons rfl (sub_cons rfl (sub_nil _))))))) ?_
   refine sr_nil (hK23 _ _ ?_)
   refine sc_cond (ev_t rfl) (fun h10 => ?_) (fun h10 => ?_)
   · (try simp only [bsimp] at h10)
     refine sc_seq fun K24 hK24 => ?_
     refine sc_text [3, 0, 1, 3, 3, 3, 3, 3, 3, 0, 1, 3, 3] ?_
     refine sr_pu rfl (fun _ => rd_field fo_api_Node_1 (ev_t rfl)) ?_
     refine sr_rd rfl (rd_load one_string (ev_t rfl) (fun _ => B1.at_ rfl)) ?_
     refine sr_pure rfl (rc_call go_r03_BinaryOp ev_f (args_cons (ev_t rfl) (args_nil)) rfl) (binop_ok _ _) (fun w124 g124 => ?_)
     have g := g.trans (g124)
     replace B1 := B1.grow (g124)
     refine sr_pu rfl (fun _ => rd_move (ev_t rfl)) ?_
     refine sr_pug rfl rfl rfl (fun _ => rd_move (ev_t rfl)) ?_
     refine sr_pug rfl rfl rfl (fun _ => rd_eq (ev_u rfl id) ev_c) ?_
     refine sr_pu rfl (fun _ => rd_pick_and (ev_t rfl) (ev_u rfl id)) ?_
     refine sr_pu rfl (fun _ => rd_move (ev_t rfl)) ?_
     refine sr_pug rfl rfl rfl (fun _ => rd_field fo_api_Node_4 (ev_t rfl)) ?_
     refine sr_rdg rfl rfl rfl (rd_load one_sl_api_Node (ev_u rfl id) (fun _ => B1.at_ rfl)) ?_
     refine sr_pureg rfl rfl rfl (fun _ => (rc_call go_r03_expressions ev_f (args_cons (ev_u rfl id) (args_nil)) rfl)) (fun hc => exprs_ok _ _ _ D _ (hk.grow g) hr hln) (fun w132 g132 => ?_)
     have g := g.trans (g132)
     replace B1 := B1.grow (g132)
     refine sr_pu rfl (fun _ => rd_pick_and (ev_t rfl) (ev_u rfl id)) ?_
     refine sr_pu rfl (fun _ => rd_assign (ev_t rfl)) ?_
     refine sr_sub [(2, _, _)] (sub_cons rfl (sub_nil _)) ?_
     refine sr_nil (hK24 _ _ ?_)
     refine sc_ret (t_ret1 rfl rfl ?_)
     refine ⟨congrArg Value.bool ?_, g⟩
     unfold refExpr; simp only [anyK, h1, h2, h3, h5, h6, h7, h8, h9, h10, cond_true, cond_false] <;> rfl
   (try simp only [bsimp] at h10)
   refine sc_seq fun K25 hK25 => ?_
   refine sc_seq fun K26 hK26 => ?_
   refine sc_text [3, 3] ?_
   refine sr_pu rfl (fun _ => rd_eq (ev_t rfl) ev_c) ?_
   refine sr_pu rfl (fun _ => rd_assign (ev_t rfl)) ?_
   refine sr_sub [(1, _, _), (2, _, _), (3, _, _), (4, _, _), (12, _, _), (134, _, _)] (sub_cons rfl (sub_cons rfl (sub_cons rfl (sub_cons rfl (sub_cons rfl (sub_cons rfl (sub_nil _))))))) ?_
   refine sr_nil (hK26 _ _ ?_)
   refine' sc_or [(1, _, _), (2, _, _), (3, _, _), (4, _, _), (12, _, _)] (sub_cons rfl (sub_cons rfl (sub_cons rfl (sub_cons rfl (sub_cons rfl (sub_cons rfl (sub_nil _))))))) rfl (fun hb11 => ?y11) (hK25 _ _ ?n11)
   case y11 =>
    refine sc_seq fun K27 hK27 => ?_
    refine sc_text [3, 3] ?_
    refine sr_pu rfl (fun _ => rd_eq (ev_t rfl) ev_c) ?_
    refine sr_pu rfl (fun _ => rd_assign (ev_t rfl)) ?_
    refine sr_sub [(1, _, _), (2, _, _), (3, _, _), (4, _, _), (12, _, _), (134, _, _)] (sub_cons rfl (sub_cons rfl (sub_cons rfl (sub_cons rfl (sub_cons rfl (sub_cons rfl (sub_nil _))))))) ?_
    refine sr_nil (hK27 _ _ ?_)
    refine' sc_or [(1, _, _), (2, _, _), (3, _, _), (4, _, _), (12, _, _)] (sub_cons rfl (sub_cons rfl (sub_cons rfl (sub_cons rfl (sub_cons rfl (sub_cons rfl (sub_nil _))))))) rfl (fun hb12 => ?y12) (fun a ha => ⟨ha, rfl⟩)
    case y12 =>
     refine sc_seq fun K28 hK28 => ?_
     refine sc_text [3, 3] ?_
     refine sr_pu rfl (fun _ => rd_eq (ev_t rfl) ev_c) ?_
     refine sr_pu rfl (fun _ => rd_assign (ev_t rfl)) ?_
     refine sr_sub [(1, _, _), (2, _, _), (3, _, _), (4, _, _), (12, _, _), (134, _, _)] (sub_cons rfl (sub_cons rfl (sub_cons rfl (sub_cons rfl (sub_cons rfl (sub_cons rfl (sub_nil _))))))) ?_
     refine sr_nil (hK28 _ _ ?_)
     refine' sc_or [(1, _, _), (2, _, _), (3, _, _), (4, _, _), (12, _, _)] (sub_cons rfl (sub_cons rfl (sub_cons rfl (sub_cons rfl (sub_cons rfl (sub_cons rfl (sub_nil _))))))) rfl (fun hb13 => ?y13) (fun a ha => ⟨ha, rfl⟩)
     case y13 =>
      refine sc_text [3, 3] ?_
      refine sr_pu rfl (fun _ => rd_eq (ev_t rfl) ev_c) ?_
      refine sr_pu rfl (fun _ => rd_assign (ev_t rfl)) ?_
      refine sr_sub [(134, _, _), (1, _, _), (2, _, _), (3, _, _), (4, _, _), (12, _, _)] (sub_cons rfl (sub_cons rfl (sub_cons rfl (sub_cons rfl (sub_cons rfl (sub_cons rfl (sub_nil _))))))) ?_
      exact sr_nil (fun a ha => ⟨ha, rfl⟩)
   case n11 =>
    refine sc_cond (ev_t rfl) (fun h14 => ?_) (fun h14 => ?_)
    · (try simp only [bsimp] at h14)
      refine sc_seq fun K29 hK29 => ?_
      refine sc_text [3, 3, 3, 3, 3, 3, 3, 0, 3, 0, 1, 3, 3] ?_
      refine sr_pu rfl (fun _ => rd_move (ev_t rfl)) ?_
      refine sr_pu rfl (fun _ => rd_move (ev_t rfl)) ?_
      refine sr_pug rfl rfl rfl (fun _ => rd_move (ev_t rfl)) ?_
      refine sr_pug rfl rfl rfl (fun _ => rd_eq (ev_u rfl id) ev_c) ?_
      refine sr_pu rfl (fun _ => rd_pick_and (ev_t rfl) (ev_u rfl id)) ?_
      refine sr_pu rfl (fun _ => rd_move (ev_t rfl)) ?_
      refine sr_pug rfl rfl rfl (fun _ => rd_field fo_api_Node_4 (ev_t rfl)) ?_
      refine sr_rdg rfl rfl rfl (rd_load one_sl_api_Node (ev_u rfl id) (fun _ => B1.at_ rfl)) ?_
      refine sr_pug rfl rfl rfl (fun _ => rd_idxq el_sl_api_Node (ev_u rfl id) ev_c (fun hc => by (have hz := hc.2; first | (unfold lenK at hz; simp at hz; omega) | (simp at hz; omega))) (fun hc => (h0x (by (have hz := hc.2; first | (unfold lenK at hz; simp at hz; omega) | (simp at hz; omega)))).1)) ?_
      refine sr_rdg rfl rfl rfl (rd_loads agg_api_Node (ev_u rfl id) rfl (fun hc => (h0x (by (have hz := hc.2; first | (unfold lenK at hz; simp at hz; omega) | (simp at hz; omega)))).2.1.grow g)) ?_
      refine sr_pureg rfl rfl rfl (fun _ => (rc_call go_r03_IsExpr ev_f (args_cons (ev_u rfl id) (args_nil)) rfl)) (fun hc => (h0x (by (have hz := hc.2; first | (unfold lenK at hz; simp at hz; omega) | (simp at hz; omega)))).2.2.2.ex _ _ D _ ((h0x (by (have hz := hc.2; first | (unfold lenK at hz; simp at hz; omega) | (simp at hz; omega)))).2.2.1.grow g)) (fun w149 g149 => ?_)
      have g := g.trans (g149)
      replace B1 := B1.grow (g149)
      refine sr_pu rfl (fun _ => rd_pick_and (ev_t rfl) (ev_u rfl id)) ?_
      refine sr_pu rfl (fun _ => rd_assign (ev_t rfl)) ?_
      refine sr_sub [(2, _, _)] (sub_cons rfl (sub_nil _)) ?_
      refine sr_nil (hK29 _ _ ?_)
      refine sc_ret (t_ret1 rfl rfl ?_)
      refine ⟨congrArg Value.bool ?_, g⟩
      unfold refExpr; simp only [anyK, h1, h2, h3, h5, h6, h7, h8, h9, h10, h14, cond_true, cond_false] <;> rfl
    (try simp only [bsimp] at h14)
    refine sc_seq fun K30 hK30 => ?_
    refine sc_text [3, 3] ?_
    refine sr_pu rfl (fun _ => rd_eq (ev_t rfl) ev_c) ?_
    refine sr_pu rfl (fun _ => rd_assign (ev_t rfl)) ?_
    refine sr_sub [(1, _, _), (2, _, _), (3, _, _), (4, _, _), (151, _, _)] (sub_cons rfl (sub_cons rfl (sub_cons rfl (sub_cons rfl (sub_cons rfl (sub_nil _)))))) ?_
    refine sr_nil (hK30 _ _ ?_)
    refine sc_cond (ev_t rfl) (fun h15 => ?_) (fun h15 => ?_)
    · (try simp only [bsimp] at h15)
      refine sc_seq fun K31 hK31 => ?_
      refine sc_text [3, 3, 3, 3, 3, 3, 3, 0, 3, 0, 1, 3, 3] ?_
      refine sr_pu rfl (fun _ => rd_move (ev_t rfl)) ?_
      refine sr_pu rfl (fun _ => rd_move (ev_t rfl)) ?_
      refine sr_pug rfl rfl rfl (fun _ => rd_move (ev_t rfl)) ?_
      refine sr_pug rfl rfl rfl (fun _ => rd_eq (ev_u rfl id) ev_c) ?_
      refine sr_pu rfl (fun _ => rd_pick_and (ev_t rfl) (ev_u rfl id)) ?_
      refine sr_pu rfl (fun _ => rd_move (ev_t rfl)) ?_
      refine sr_pug rfl rfl rfl (fun _ => rd_field fo_api_Node_4 (ev_t rfl)) ?_
      refine sr_rdg rfl rfl rfl (rd_load one_sl_api_Node (ev_u rfl id) (fun _ => B1.at_ rfl)) ?_
      refine sr_pug rfl rfl rfl (fun _ => rd_idxq el_sl_api_Node (ev_u rfl id) ev_c (fun hc => by (have hz := hc.2; first | (unfold lenK at hz; simp at hz; omega) | (simp at hz; omega))) (fun hc => (h0x (by (have hz := hc.2; first | (unfold lenK at hz; simp at hz; omega) | (simp at hz; omega)))).1)) ?_
      refine sr_rdg rfl rfl rfl (rd_loads agg_api_Node (ev_u rfl id) rfl (fun hc => (h0x (by (have hz := hc.2; first | (unfold lenK at hz; simp at hz; omega) | (simp at hz; omega)))).2.1.grow g)) ?_
      refine sr_pureg rfl rfl rfl (fun _ => (rc_call go_r03_isBlock ev_f (args_cons (ev_u rfl id) (args_nil)) rfl)) (fun hc => (h0x (by (have hz := hc.2; first | (unfold lenK at hz; simp at hz; omega) | (simp at hz; omega)))).2.2.2.bl _ _ D _ ((h0x (by (have hz := hc.2; first | (unfold lenK at hz; simp at hz; omega) | (simp at hz; omega)))).2.2.1.grow g)) (fun w163 g163 => ?_)
      have g := g.trans (g163)
      replace B1 := B1.grow (g163)
      refine sr_pu rfl (fun _ => rd_pick_and (ev_t rfl) (ev_u rfl id)) ?_
      refine sr_pu rfl (fun _ => rd_assign (ev_t rfl)) ?_
      refine sr_sub [(2, _, _)] (sub_cons rfl (sub_nil _)) ?_
      refine sr_nil (hK31 _ _ ?_)
      refine sc_ret (t_ret1 rfl rfl ?_)
      refine ⟨congrArg Value.bool ?_, g⟩
      unfold refExpr; simp only [anyK, h1, h2, h3, h5, h6, h7, h8, h9, h10, h14, h15, cond_true, cond_false] <;> rfl
    (try simp only [bsimp] at h15)
    refine sc_skip (hK4 _ _ ?_)
    refine sc_sub [(2, _, _)] (sub_cons rfl (sub_nil _)) ?_
    refine sc_seq fun K32 hK32 => ?_
    refine sc_text [3] ?_
    refine sr_pu rfl (fun _ => rd_assign ev_c) ?_
    refine sr_nil (hK32 _ _ ?_)
    refine sc_ret (t_ret1 rfl rfl ?_)
    refine ⟨congrArg Value.bool ?_, g⟩
    unfold refExpr; simp only [anyK, h1, h2, h3, h5, h6, h7, h8, h9, h10, h14, h15, cond_true, cond_false] <;> rfl
end Go.Rk
namespace Go.Rk
open Go Go.RowKit
theorem isblock_ok (t : Nd) (p : Option Addr) (c : Nat) (D : Nat → Prop) (w : World) (hk : Kd w D t.kids (.slice p t.kids.length c)) (ih : Below t) (hln : t.kids.length ≤ 1000000) : Ret PP fn_r03_isBlock #[ndV t (.slice p t.kids.length c)] w fun r w' => r = .bool (blockB t) ∧ G w w' := by
  rw [← refBlock_eq, refBlock]
  have g := G.refl w
  refine ret_of_sc (m := 26) func_r03_isBlock rfl rfl [(0, True, _)] (sub_cons rfl (sub_nil _)) ?_
  refine sc_seq fun K1 hK1 => ?_
  refine sc_text [1, 3] ?_
  refine sr_box rfl (ev_t rfl) rfl ?_
  intro b1 w1 N1
  have l1 := N1.ge g
  have g := g.trans (N1.g)
  have B1 := N1.blk
  refine sr_pu rfl (fun _ => rd_assign ev_c) ?_
  refine sr_sub [(1, _, _), (2, _, _)] (sub_cons rfl (sub_cons rfl (sub_nil _))) ?_
  refine sr_nil (hK1 _ _ ?_)
  refine sc_seq fun K2 hK2 => ?_
  refine sc_seq fun K3 hK3 => ?_
  refine sc_text [3, 0, 3, 3, 3, 0, 3, 3] ?_
  refine sr_pu rfl (fun _ => rd_field fo_api_Node_0 (ev_t rfl)) ?_
  refine sr_rd rfl (rd_load one_int (ev_t rfl) (fun _ => B1.at_ rfl)) ?_
  refine sr_pu rfl (fun _ => rd_ne (ev_t rfl) ev_c) ?_
  refine sr_pu rfl (fun _ => rd_move (ev_t rfl)) ?_
  refine sr_pug rfl rfl rfl (fun _ => rd_field fo_api_Node_1 (ev_t rfl)) ?_
  refine sr_rdg rfl rfl rfl (rd_load one_string (ev_u rfl id) (fun _ => B1.at_ rfl)) ?_
  refine sr_pug rfl rfl rfl (fun _ => rd_sne (ev_u rfl id) ev_c) ?_
  refine sr_pu rfl (fun _ => rd_pick_or (ev_t rfl) (ev_u rfl id)) ?_
  refine sr_sub [(1, _, _), (2, _, _), (11, _, _)] (sub_cons rfl (sub_cons rfl (sub_cons rfl (sub_nil _)))) ?_
  refine sr_nil (hK3 _ _ ?_)
  refine sc_cond (ev_t rfl) (fun h1 => ?_) (fun h1 => ?_)
  · replace h1 : (!decide (t.kind = 10) || !plainB t) = true := h1
    refine sc_seq fun K4 hK4 => ?_
    refine sc_text [3] ?_
    refine sr_pu rfl (fun _ => rd_assign ev_c) ?_
    refine sr_sub [(1, _, _), (2, _, _)] (sub_cons rfl (sub_cons rfl (sub_nil _))) ?_
    refine sr_nil (hK4 _ _ ?_)
    refine sc_ret (t_ret1 rfl rfl ?_)
    refine ⟨congrArg Value.bool ?_, g⟩
    rw [h1]; rfl
  replace h1 : (!decide (t.kind = 10) || !plainB t) = false := h1
  refine sc_skip (hK2 _ _ ?_)
  refine sc_sub [(1, _, _), (2, _, _)] (sub_cons rfl (sub_cons rfl (sub_nil _))) ?_
  refine sc_seq fun K5 hK5 => ?_
  refine sc_seq fun K6 hK6 => ?_
  refine sc_text [3] ?_
  refine sr_pu rfl (fun _ => rd_assign ev_c) ?_
  refine sr_nil (hK6 _ _ ?_)
  refine sc_block ?_
  refine sc_loop2 (fun (i : Nat) u1 => (i ≤ t.kids.length ∧ ∀ j, (h : j < t.kids.length) → j < i → stmtB t.kids[j] = true) ∧ G w1 u1) [(1, True, _)] (fun (i : Nat) => [(3, True, .int .i64 i)]) (fun (i : Nat) => t.kids.length - i) (0) ⟨⟨Nat.zero_le _, fun j _ hj => absurd hj (Nat.not_lt_zero j)⟩, G.refl _⟩ (sub_cons rfl (sub_cons rfl (sub_nil _))) ?_
  rintro i u1 ⟨hI1, gl1⟩
  have g := g.trans gl1
  replace B1 := B1.grow (gl1)
  refine sc_seq fun K7 hK7 => ?_
  refine sc_seq fun K8 hK8 => ?_
  refine sc_text [3, 3, 0, 3, 3] ?_
  refine sr_pu rfl (fun _ => rd_move (ev_t rfl)) ?_
  refine sr_pu rfl (fun _ => rd_field fo_api_Node_4 (ev_t rfl)) ?_
  refine sr_rd rfl (rd_load one_sl_api_Node (ev_t rfl) (fun _ => B1.at_ rfl)) ?_
  refine sr_pu rfl (fun _ => rd_len el_sl_api_Node (ev_t rfl)) ?_
  refine sr_pu rfl (fun _ => rd_lt (ev_t rfl) (ev_t rfl)) ?_
  refine sr_sub [(1, _, _), (3, _, _), (16, _, _)] (sub_cons rfl (sub_cons rfl (sub_cons rfl (sub_nil _)))) ?_
  refine sr_nil (hK8 _ _ ?_)
  refine sc_cond (ev_t rfl) (fun h2 => ?_) (fun h2 => ?_)
  · replace h2 : i < t.kids.length := by simp only [decide_eq_true_eq] at h2; omega
    obtain ⟨hpe, p2, c2, hcell, hkid⟩ := kd_opt hk h2
    have hr := ih.kid h2
    refine sc_skip (hK7 _ _ ?_)
    refine sc_sub [(1, _, _), (3, _, _)] (sub_cons rfl (sub_cons rfl (sub_nil _))) ?_
    refine sc_seq fun K9 hK9 => ?_
    refine sc_block ?_
    refine sc_seq fun K10 hK10 => ?_
    refine sc_text [3, 0, 3, 3, 0, 1, 3] ?_
    refine sr_pu rfl (fun _ => rd_field fo_api_Node_4 (ev_t rfl)) ?_
    refine sr_rd rfl (rd_load one_sl_api_Node (ev_t rfl) (fun _ => B1.at_ rfl)) ?_
    refine sr_pu rfl (fun _ => rd_move (ev_t rfl)) ?_
    refine sr_pu rfl (fun _ => rd_idxq el_sl_api_Node (ev_t rfl) (ev_t rfl) (fun _ => by omega) (fun _ => hpe)) ?_
    refine sr_rd rfl (rd_loads agg_api_Node (ev_t rfl) rfl (fun _ => hcell.grow g)) ?_
    refine sr_pure rfl (rc_call go_r03_isStmt ev_f (args_cons (ev_t rfl) (args_nil)) rfl) (hr.st _ _ D _ (hkid.grow g)) (fun w24 g24 => ?_)
    have g := g.trans (g24)
    try have gl1 := gl1.trans (g24)
    replace B1 := B1.grow (g24)
    refine sr_pu rfl (fun _ => rd_not (ev_t rfl)) ?_
    refine sr_sub [(1, _, _), (3, _, _), (25, _, _)] (sub_cons rfl (sub_cons rfl (sub_cons rfl (sub_nil _)))) ?_
    refine sr_nil (hK10 _ _ ?_)
    refine sc_cond (ev_t rfl) (fun h3 => ?_) (fun h3 => ?_)
    · (try simp only [bsimp] at h3)
      refine sc_seq fun K11 hK11 => ?_
      refine sc_text [3] ?_
      refine sr_pu rfl (fun _ => rd_assign ev_c) ?_
      refine sr_sub [(1, _, _), (2, _, _), (3, _, _)] (sub_cons rfl (sub_cons rfl (sub_cons rfl (sub_nil _)))) ?_
      refine sr_nil (hK11 _ _ ?_)
      refine sc_ret (t_ret1 rfl rfl ?_)
      refine ⟨congrArg Value.bool ?_, g⟩
      rw [h1, cond_false, eq_comm, List.all_eq_false]
      exact ⟨_, List.getElem_mem h2, by rw [← kidAt_eq h2]; simpa using h3⟩
    (try simp only [bsimp] at h3)
    refine sc_skip (hK9 _ _ ?_)
    refine sc_sub [(1, _, _), (3, _, _)] (sub_cons rfl (sub_cons rfl (sub_nil _))) ?_
    refine sc_text [3, 3, 3] ?_
    refine sr_pu rfl (fun _ => rd_move (ev_t rfl)) ?_
    refine sr_pu rfl (fun _ => rd_add (ev_t rfl) ev_c (fun _ => by omega)) ?_
    refine sr_pu rfl (fun _ => rd_assign (ev_t rfl)) ?_
    refine sr_sub [(3, _, _), (1, _, _)] (sub_cons rfl (sub_cons rfl (sub_nil _))) ?_
    refine sr_nil (fun a ha => ?_)
    refine ⟨i + 1, ha, ⟨⟨h2, fun j h hj => ?_⟩, gl1⟩, by omega⟩
    by_cases e : j = i
    · subst e; rw [← kidAt_eq h2]; simpa using h3
    · exact hI1.2 j h (by omega)
  (try simp only [bsimp] at h2)
  refine sc_exit rfl (hK5 _ _ ?_)
  refine sc_sub [] (sub_nil _) ?_
  refine sc_seq fun K12 hK12 => ?_
  refine sc_text [3] ?_
  refine sr_pu rfl (fun _ => rd_assign ev_c) ?_
  refine sr_nil (hK12 _ _ ?_)
  refine sc_ret (t_ret1 rfl rfl ?_)
  refine ⟨congrArg Value.bool ?_, g⟩
  rw [h1, cond_false, eq_comm, List.all_eq_true]
  intro x hx
  obtain ⟨j, hj, rfl⟩ := List.getElem_of_mem hx
  exact hI1.2 j hj (by simp only [decide_eq_false_iff_not] at h2; omega)
theorem isif_ok (t : Nd) (p : Option Addr) (c : Nat) (D : Nat → Prop) (w : World) (hk : Kd w D t.kids (.slice p t.kids.length c)) (ih : Below t) : Ret PP fn_r03_isIf #[ndV t (.slice p t.kids.length c)] w fun r w' => r = .bool (ifB t) ∧ G w w' := by
  rw [← refIf_eq, refIf]
  have g := G.refl w
  refine ret_of_sc (m := 46) func_r03_isIf rfl rfl [(0, True, _)] (sub_cons rfl (sub_nil _)) ?_
  refine sc_seq fun K1 hK1 => ?_
  refine sc_text [1, 3] ?_
  refine sr_box rfl (ev_t rfl) rfl ?_
  intro b1 w1 N1
  have l1 := N1.ge g
  have g := g.trans (N1.g)
  have B1 := N1.blk
  refine sr_pu rfl (fun _ => rd_assign ev_c) ?_
  refine sr_sub [(1, _, _), (2, _, _)] (sub_cons rfl (sub_cons rfl (sub_nil _))) ?_
  refine sr_nil (hK1 _ _ ?_)
  refine sc_seq fun K2 hK2 => ?_
  refine sc_seq fun K3 hK3 => ?_
  refine sc_text [3, 0, 3, 3, 3, 0, 3, 3, 3, 3, 0, 3, 3, 3] ?_
  refine sr_pu rfl (fun _ => rd_field fo_api_Node_0 (ev_t rfl)) ?_
  refine sr_rd rfl (rd_load one_int (ev_t rfl) (fun _ => B1.at_ rfl)) ?_
  refine sr_pu rfl (fun _ => rd_ne (ev_t rfl) ev_c) ?_
  refine sr_pu rfl (fun _ => rd_move (ev_t rfl)) ?_
  refine sr_pug rfl rfl rfl (fun _ => rd_field fo_api_Node_1 (ev_t rfl)) ?_
  refine sr_rdg rfl rfl rfl (rd_load one_string (ev_u rfl id) (fun _ => B1.at_ rfl)) ?_
  refine sr_pug rfl rfl rfl (fun _ => rd_sne (ev_u rfl id) ev_c) ?_
  refine sr_pu rfl (fun _ => rd_pick_or (ev_t rfl) (ev_u rfl id)) ?_
  refine sr_pu rfl (fun _ => rd_move (ev_t rfl)) ?_
  refine sr_pug rfl rfl rfl (fun _ => rd_field fo_api_Node_4 (ev_t rfl)) ?_
  refine sr_rdg rfl rfl rfl (rd_load one_sl_api_Node (ev_u rfl id) (fun _ => B1.at_ rfl)) ?_
  refine sr_pug rfl rfl rfl (fun _ => rd_len el_sl_api_Node (ev_u rfl id)) ?_
  refine sr_pug rfl rfl rfl (fun _ => rd_ne (ev_u rfl id) ev_c) ?_
  refine sr_pu rfl (fun _ => rd_pick_or (ev_t rfl) (ev_u rfl id)) ?_
  refine sr_sub [(1, _, _), (2, _, _), (17, _, _)] (sub_cons rfl (sub_cons rfl (sub_cons rfl (sub_nil _)))) ?_
  refine sr_nil (hK3 _ _ ?_)
  refine sc_cond (ev_t rfl) (fun h1 => ?_) (fun h1 => ?_)
  · replace h1 : ((!decide (t.kind = 18) || !plainB t) || !lenK t 3) = true := h1
    refine sc_seq fun K4 hK4 => ?_
    refine sc_text [3] ?_
    refine sr_pu rfl (fun _ => rd_assign ev_c) ?_
    refine sr_sub [(1, _, _), (2, _, _)] (sub_cons rfl (sub_cons rfl (sub_nil _))) ?_
    refine sr_nil (hK4 _ _ ?_)
    refine sc_ret (t_ret1 rfl rfl ?_)
    refine ⟨congrArg Value.bool ?_, g⟩
    rw [h1]; rfl
  replace h1 : ((!decide (t.kind = 18) || !plainB t) || !lenK t 3) = false := h1
  have hl3 : t.kids.length = 3 := by simp only [lenK, Bool.or_eq_false_iff, Bool.not_eq_false', decide_eq_true_eq] at h1; omega
  obtain ⟨hpe, p0, c0, hcell0, hkid0⟩ := kd_opt hk (i := 0) (by omega)
  obtain ⟨_, p1, c1, hcell1, hkid1⟩ := kd_opt hk (i := 1) (by omega)
  obtain ⟨_, p2, c2, hcell2, hkid2⟩ := kd_opt hk (i := 2) (by omega)
  have hr0 := ih.kid (i := 0) (by omega)
  have hr1 := ih.kid (i := 1) (by omega)
  have hr2 := ih.kid (i := 2) (by omega)
  refine sc_skip (hK2 _ _ ?_)
  refine sc_sub [(1, _, _), (2, _, _)] (sub_cons rfl (sub_cons rfl (sub_nil _))) ?_
  refine sc_seq fun K5 hK5 => ?_
  refine sc_text [3, 0, 3, 0, 1, 2] ?_
  refine sr_pu rfl (fun _ => rd_field fo_api_Node_4 (ev_t rfl)) ?_
  refine sr_rd rfl (rd_load one_sl_api_Node (ev_t rfl) (fun _ => B1.at_ rfl)) ?_
  refine sr_pu rfl (fun _ => rd_idxq el_sl_api_Node (ev_t rfl) ev_c (fun _ => by omega) (fun _ => hpe)) ?_
  refine sr_rd rfl (rd_loads agg_api_Node (ev_t rfl) rfl (fun _ => hcell2.grow g)) ?_
  refine sr_alloc rfl ze_api_Node rfl ?_
  intro b3 w3 N3
  have x3_1 := N3.ne B1
  have l3 := N3.ge g
  have g := g.trans (N3.g)
  replace B1 := B1.grow (N3.g)
  have B3 := N3.blk
  refine sr_store_all rfl sz_api_Node (ev_t rfl) (ev_t rfl) rfl rfl B3 rfl rfl ?_
  intro wS1 hgS1 hzS1
  clear B3
  intro B3
  replace B1 := B1.keep hgS1 (by intro h; injection h with h; first | exact x3_1 h.symm | exact x1_3 h | omega)
  have g := g_only g hgS1 (by intro k hk; injection hk with hk; omega)
  refine sr_sub [(1, _, _), (2, _, _), (3, _, _)] (sub_cons rfl (sub_cons rfl (sub_cons rfl (sub_nil _)))) ?_
  refine sr_nil (hK5 _ _ ?_)
  refine sc_seq fun K6 hK6 => ?_
  refine sc_text [3, 0, 3, 0, 1, 3, 3, 0, 3, 0, 1, 3, 3, 0, 1, 3, 0, 1, 3, 3, 0, 1, 3, 3, 3] ?_
  refine sr_pu rfl (fun _ => rd_field fo_api_Node_4 (ev_t rfl)) ?_
  refine sr_rd rfl (rd_load one_sl_api_Node (ev_t rfl) (fun _ => B1.at_ rfl)) ?_
  refine sr_pu rfl (fun _ => rd_idxq el_sl_api_Node (ev_t rfl) ev_c (fun _ => by omega) (fun _ => hpe)) ?_
  refine sr_rd rfl (rd_loads agg_api_Node (ev_t rfl) rfl (fun _ => hcell0.grow g)) ?_
  refine sr_pure rfl (rc_call go_r03_IsExpr ev_f (args_cons (ev_t rfl) (args_nil)) rfl) (hr0.ex _ _ D _ (hkid0.grow g)) (fun w26 g26 => ?_)
  have g := g.trans (g26)
  replace B1 := B1.grow (g26)
  replace B3 := B3.grow (g26)
  refine sr_pu rfl (fun _ => rd_move (ev_t rfl)) ?_
  refine sr_pug rfl rfl rfl (fun _ => rd_field fo_api_Node_4 (ev_t rfl)) ?_
  refine sr_rdg rfl rfl rfl (rd_load one_sl_api_Node (ev_u rfl id) (fun _ => B1.at_ rfl)) ?_
  refine sr_pug rfl rfl rfl (fun _ => rd_idxq el_sl_api_Node (ev_u rfl id) ev_c (fun _ => by omega) (fun _ => hpe)) ?_
  refine sr_rdg rfl rfl rfl (rd_loads agg_api_Node (ev_u rfl id) rfl (fun _ => hcell1.grow g)) ?_
  refine sr_pureg rfl rfl rfl (fun _ => (rc_call go_r03_isBlock ev_f (args_cons (ev_u rfl id) (args_nil)) rfl)) (fun hc => hr1.bl _ _ D _ (hkid1.grow g)) (fun w32 g32 => ?_)
  have g := g.trans (g32)
  replace B1 := B1.grow (g32)
  replace B3 := B3.grow (g32)
  refine sr_pu rfl (fun _ => rd_pick_and (ev_t rfl) (ev_u rfl id)) ?_
  refine sr_pu rfl (fun _ => rd_move (ev_t rfl)) ?_
  refine sr_rdg rfl rfl rfl (rd_loads agg_api_Node (ev_t rfl) rfl (fun _ => B3.row)) ?_
  refine sr_pureg rfl rfl rfl (fun _ => (rc_call go_r03_isBlock ev_f (args_cons (ev_u rfl id) (args_nil)) rfl)) (fun hc => hr2.bl _ _ D _ (hkid2.grow g)) (fun w36 g36 => ?_)
  have g := g.trans (g36)
  replace B1 := B1.grow (g36)
  replace B3 := B3.grow (g36)
  refine sr_pug rfl rfl rfl (fun _ => rd_move (ev_u rfl id)) ?_
  refine sr_rdg rfl rfl rfl (rd_loads agg_api_Node (ev_t rfl) rfl (fun _ => B3.row)) ?_
  refine sr_pureg rfl rfl rfl (fun _ => (rc_call go_r03_isIf ev_f (args_cons (ev_u rfl id) (args_nil)) rfl)) (fun hc => hr2.fi _ _ D _ (hkid2.grow g)) (fun w39 g39 => ?_)
  have g := g.trans (g39)
  replace B1 := B1.grow (g39)
  replace B3 := B3.grow (g39)
  refine sr_pug rfl rfl rfl (fun _ => rd_pick_or (ev_u rfl id) (ev_u rfl id)) ?_
  refine sr_pug rfl rfl rfl (fun _ => rd_move (ev_u rfl id)) ?_
  refine sr_rdg rfl rfl rfl (rd_loads agg_api_Node (ev_t rfl) rfl (fun _ => B3.row)) ?_
  refine sr_pureg rfl rfl rfl (fun _ => (rc_call go_r03_isNone ev_f (args_cons (ev_u rfl id) (args_nil)) rfl)) (fun hc => none_ok _ _ _ _) (fun w43 g43 => ?_)
  have g := g.trans (g43)
  replace B1 := B1.grow (g43)
  replace B3 := B3.grow (g43)
  refine sr_pug rfl rfl rfl (fun _ => rd_pick_or (ev_u rfl id) (ev_u rfl id)) ?_
  refine sr_pu rfl (fun _ => rd_pick_and (ev_t rfl) (ev_u rfl id)) ?_
  refine sr_pu rfl (fun _ => rd_assign (ev_t rfl)) ?_
  refine sr_sub [(2, _, _)] (sub_cons rfl (sub_nil _)) ?_
  refine sr_nil (hK6 _ _ ?_)
  refine sc_ret (t_ret1 rfl rfl ?_)
  refine ⟨congrArg Value.bool ?_, g⟩
  rw [h1]; rfl
theorem isvar_ok (t : Nd) (p : Option Addr) (c : Nat) (D : Nat → Prop) (w : World) (hk : Kd w D t.kids (.slice p t.kids.length c)) (ih : Below t) : Ret PP fn_r03_isVar #[ndV t (.slice p t.kids.length c)] w fun r w' => r = .bool (varB t) ∧ G w w' := by
  rw [← refVar_eq, refVar]
  have g := G.refl w
  obtain ⟨p0, c0, h0x⟩ := kd_ih hk ih 0
  obtain ⟨p1, c1, h1x⟩ := kd_ih hk ih 1
  refine ret_of_sc (m := 38) func_r03_isVar rfl rfl [(0, True, _)] (sub_cons rfl (sub_nil _)) ?_
  refine sc_seq fun K1 hK1 => ?_
  refine sc_text [1, 3] ?_
  refine sr_box rfl (ev_t rfl) rfl ?_
  intro b1 w1 N1
  have l1 := N1.ge g
  have g := g.trans (N1.g)
  have B1 := N1.blk
  refine sr_pu rfl (fun _ => rd_assign ev_c) ?_
  refine sr_sub [(1, _, _), (2, _, _)] (sub_cons rfl (sub_cons rfl (sub_nil _))) ?_
  refine sr_nil (hK1 _ _ ?_)
  refine sc_seq fun K2 hK2 => ?_
  refine sc_text [3, 0, 3, 3, 3, 0, 1, 3, 3, 3, 0, 3, 3, 3, 3, 3, 0, 3, 0, 1, 3, 3, 3, 0, 3, 0, 1, 3, 3, 0, 3, 0, 1, 3, 3, 3] ?_
  refine sr_pu rfl (fun _ => rd_field fo_api_Node_0 (ev_t rfl)) ?_
  refine sr_rd rfl (rd_load one_int (ev_t rfl) (fun _ => B1.at_ rfl)) ?_
  refine sr_pu rfl (fun _ => rd_eq (ev_t rfl) ev_c) ?_
  refine sr_pu rfl (fun _ => rd_move (ev_t rfl)) ?_
  refine sr_pug rfl rfl rfl (fun _ => rd_field fo_api_Node_1 (ev_t rfl)) ?_
  refine sr_rdg rfl rfl rfl (rd_load one_string (ev_u rfl id) (fun _ => B1.at_ rfl)) ?_
  refine sr_pureg rfl rfl rfl (fun _ => (rc_call go_r02_Name ev_f (args_cons (ev_u rfl id) (args_nil)) rfl)) (fun hc => rname_ok _ _) (fun w9 g9 => ?_)
  have g := g.trans (g9)
  replace B1 := B1.grow (g9)
  refine sr_pu rfl (fun _ => rd_pick_and (ev_t rfl) (ev_u rfl id)) ?_
  refine sr_pu rfl (fun _ => rd_move (ev_t rfl)) ?_
  refine sr_pug rfl rfl rfl (fun _ => rd_field fo_api_Node_4 (ev_t rfl)) ?_
  refine sr_rdg rfl rfl rfl (rd_load one_sl_api_Node (ev_u rfl id) (fun _ => B1.at_ rfl)) ?_
  refine sr_pug rfl rfl rfl (fun _ => rd_len el_sl_api_Node (ev_u rfl id)) ?_
  refine sr_pug rfl rfl rfl (fun _ => rd_eq (ev_u rfl id) ev_c) ?_
  refine sr_pu rfl (fun _ => rd_pick_and (ev_t rfl) (ev_u rfl id)) ?_
  refine sr_pu rfl (fun _ => rd_move (ev_t rfl)) ?_
  refine sr_pug rfl rfl rfl (fun _ => rd_field fo_api_Node_4 (ev_t rfl)) ?_
  refine sr_rdg rfl rfl rfl (rd_load one_sl_api_Node (ev_u rfl id) (fun _ => B1.at_ rfl)) ?_
  refine sr_pug rfl rfl rfl (fun _ => rd_idxq el_sl_api_Node (ev_u rfl id) ev_c (fun hc => by (have hz := hc.2; first | (unfold lenK at hz; simp at hz; omega) | (simp at hz; omega))) (fun hc => (h0x (by (have hz := hc.2; first | (unfold lenK at hz; simp at hz; omega) | (simp at hz; omega)))).1)) ?_
  refine sr_rdg rfl rfl rfl (rd_loads agg_api_Node (ev_u rfl id) rfl (fun hc => (h0x (by (have hz := hc.2; first | (unfold lenK at hz; simp at hz; omega) | (simp at hz; omega)))).2.1.grow g)) ?_
  refine sr_pureg rfl rfl rfl (fun _ => (rc_call go_r03_IsType ev_f (args_cons (ev_u rfl id) (args_nil)) rfl)) (fun hc => istype_ok _ _ _ _) (fun w22 g22 => ?_)
  have g := g.trans (g22)
  replace B1 := B1.grow (g22)
  refine sr_pu rfl (fun _ => rd_pick_and (ev_t rfl) (ev_u rfl id)) ?_
  refine sr_pu rfl (fun _ => rd_move (ev_t rfl)) ?_
  refine sr_pug rfl rfl rfl (fun _ => rd_field fo_api_Node_4 (ev_t rfl)) ?_
  refine sr_rdg rfl rfl rfl (rd_load one_sl_api_Node (ev_u rfl id) (fun _ => B1.at_ rfl)) ?_
  refine sr_pug rfl rfl rfl (fun _ => rd_idxq el_sl_api_Node (ev_u rfl id) ev_c (fun hc => by (have hz := hc.2; first | (unfold lenK at hz; simp at hz; omega) | (simp at hz; omega))) (fun hc => (h1x (by (have hz := hc.2; first | (unfold lenK at hz; simp at hz; omega) | (simp at hz; omega)))).1)) ?_
  refine sr_rdg rfl rfl rfl (rd_loads agg_api_Node (ev_u rfl id) rfl (fun hc => (h1x (by (have hz := hc.2; first | (unfold lenK at hz; simp at hz; omega) | (simp at hz; omega)))).2.1.grow g)) ?_
  refine sr_pureg rfl rfl rfl (fun _ => (rc_call go_r03_isNone ev_f (args_cons (ev_u rfl id) (args_nil)) rfl)) (fun hc => none_ok _ _ _ _) (fun w29 g29 => ?_)
  have g := g.trans (g29)
  replace B1 := B1.grow (g29)
  refine sr_pug rfl rfl rfl (fun _ => rd_move (ev_u rfl id)) ?_
  refine sr_pug rfl rfl rfl (fun _ => rd_field fo_api_Node_4 (ev_t rfl)) ?_
  refine sr_rdg rfl rfl rfl (rd_load one_sl_api_Node (ev_u rfl id) (fun _ => B1.at_ rfl)) ?_
  refine sr_pug rfl rfl rfl (fun _ => rd_idxq el_sl_api_Node (ev_u rfl id) ev_c (fun hc => by (have hz := hc.1.2; first | (unfold lenK at hz; simp at hz; omega) | (simp at hz; omega))) (fun hc => (h1x (by (have hz := hc.1.2; first | (unfold lenK at hz; simp at hz; omega) | (simp at hz; omega)))).1)) ?_
  refine sr_rdg rfl rfl rfl (rd_loads agg_api_Node (ev_u rfl id) rfl (fun hc => (h1x (by (have hz := hc.1.2; first | (unfold lenK at hz; simp at hz; omega) | (simp at hz; omega)))).2.1.grow g)) ?_
  refine sr_pureg rfl rfl rfl (fun _ => (rc_call go_r03_IsExpr ev_f (args_cons (ev_u rfl id) (args_nil)) rfl)) (fun hc => (h1x (by (have hz := hc.1.2; first | (unfold lenK at hz; simp at hz; omega) | (simp at hz; omega)))).2.2.2.ex _ _ D _ ((h1x (by (have hz := hc.1.2; first | (unfold lenK at hz; simp at hz; omega) | (simp at hz; omega)))).2.2.1.grow g)) (fun w35 g35 => ?_)
  have g := g.trans (g35)
  replace B1 := B1.grow (g35)
  refine sr_pug rfl rfl rfl (fun _ => rd_pick_or (ev_u rfl id) (ev_u rfl id)) ?_
  refine sr_pu rfl (fun _ => rd_pick_and (ev_t rfl) (ev_u rfl id)) ?_
  refine sr_pu rfl (fun _ => rd_assign (ev_t rfl)) ?_
  refine sr_sub [(2, _, _)] (sub_cons rfl (sub_nil _)) ?_
  refine sr_nil (hK2 _ _ ?_)
  refine sc_ret (t_ret1 rfl rfl ?_)
  exact ⟨rfl, g⟩
end Go.Rk
