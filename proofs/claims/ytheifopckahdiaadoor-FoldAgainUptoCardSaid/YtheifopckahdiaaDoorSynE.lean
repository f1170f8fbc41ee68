/- Syntax: what the reference permits, node by node; plain laws. Conditions: none. -/
import Derived.Test.YtheifopckahdiaaDoorSynD
namespace Go.Rk
open Go Go.RowKit
def exprB (t : Nd) : Bool := expK t.kind && permF t
def blockB (t : Nd) : Bool := decide (t.kind = 10) && permF t
def stmtB (t : Nd) : Bool := stK t.kind && permF t
def ifB (t : Nd) : Bool := decide (t.kind = 18) && permF t
def varB (t : Nd) : Bool := decide (t.kind = 6) && permF t
def commF (t : Nd) : Bool := commB t && permF t
def plainB (t : Nd) : Bool := decide (t.text = [])
def noneB (t : Nd) : Bool := (decide (t.kind = 9) && decide (t.text = [])) && lenK t 0
def kindB (t : Nd) (k : Int) : Bool := decide (t.kind = k) && exprB t
theorem len_two {α : Type} {l : List α} (h : l.length = 2) : ∃ a b, l = [a, b] := by
  match l, h with | [a, b], _ => exact ⟨a, b, rfl⟩
theorem len_three {α : Type} {l : List α} (h : l.length = 3) : ∃ a b c, l = [a, b, c] := by
  match l, h with | [a, b, c], _ => exact ⟨a, b, c, rfl⟩
theorem memK_one (a k : Int) : memK [a] k = decide (k = a) := by simp [memK]
theorem lenK_f {t : Nd} (n : Nat) (h : t.kids.length ≠ n) : lenK t (n : Int) = false := by rw [lenK, decide_eq_false]; omega
theorem kidsB_f {t : Nd} {qs : List (Int → Bool)} (h : t.kids.length ≠ qs.length) : kidsB t qs = false := by rw [kidsB, decide_eq_false h, Bool.false_and]
theorem kids_0 {t : Nd} {f : Nd → Bool} : (lenK t 0 && t.kids.all f) = lenK t 0 := by
  by_cases h : t.kids.length = 0
  · rw [List.length_eq_zero_iff.1 h, List.all_nil, Bool.and_true]
  · rw [show lenK t 0 = false from lenK_f 0 h]; rfl
theorem kids_1 {t : Nd} {q : Int → Bool} : (kidsB t [q] && t.kids.all permF) = (lenK t 1 && (q (kidAt t 0).kind && permF (kidAt t 0))) := by
  by_cases h : t.kids.length = 1
  · obtain ⟨a, ha⟩ := List.length_eq_one_iff.1 h
    simp [lenK, kidsB, kidAt, ha, List.range_succ]
  · rw [show lenK t 1 = false from lenK_f 1 h, kidsB_f h]; rfl
theorem kids_2 {t : Nd} {q q2 : Int → Bool} : (kidsB t [q, q2] && t.kids.all permF) = (lenK t 2 && ((q (kidAt t 0).kind && permF (kidAt t 0)) && (q2 (kidAt t 1).kind && permF (kidAt t 1)))) := by
  by_cases h : t.kids.length = 2
  · obtain ⟨a, b, ha⟩ := len_two h
    simp [lenK, kidsB, kidAt, ha, List.range_succ]; ac_rfl
  · rw [show lenK t 2 = false from lenK_f 2 h, kidsB_f h]; rfl
theorem kids_3 {t : Nd} {q q2 q3 : Int → Bool} : (kidsB t [q, q2, q3] && t.kids.all permF) = (lenK t 3 && (((q (kidAt t 0).kind && permF (kidAt t 0)) && (q2 (kidAt t 1).kind && permF (kidAt t 1))) && (q3 (kidAt t 2).kind && permF (kidAt t 2)))) := by
  by_cases h : t.kids.length = 3
  · obtain ⟨a, b, c, ha⟩ := len_three h
    simp [lenK, kidsB, kidAt, ha, List.range_succ]; ac_rfl
  · rw [show lenK t 3 = false from lenK_f 3 h, kidsB_f h]; rfl
theorem all_1 {t : Nd} {f : Nd → Bool} : (lenK t 1 && t.kids.all f) = (lenK t 1 && f (kidAt t 0)) := by
  by_cases h : t.kids.length = 1
  · obtain ⟨a, ha⟩ := List.length_eq_one_iff.1 h
    simp [lenK, kidAt, ha]
  · rw [show lenK t 1 = false from lenK_f 1 h]; rfl
theorem all_2 {t : Nd} {f : Nd → Bool} : (lenK t 2 && t.kids.all f) = (lenK t 2 && (f (kidAt t 0) && f (kidAt t 1))) := by
  by_cases h : t.kids.length = 2
  · obtain ⟨a, b, ha⟩ := len_two h
    simp [lenK, kidAt, ha]
  · rw [show lenK t 2 = false from lenK_f 2 h]; rfl
theorem every_all {t : Nd} {q : Int → Bool} : (everyB t q && t.kids.all permF) = t.kids.all fun k => q k.kind && permF k := by
  rw [everyB, Bool.eq_iff_iff]
  simp only [Bool.and_eq_true, List.all_eq_true]
  exact ⟨fun h k hk => ⟨h.1 k hk, h.2 k hk⟩, fun h => ⟨fun k hk => (h k hk).1, fun k hk => (h k hk).2⟩⟩
theorem exp_all {t : Nd} : (everyB t expK && t.kids.all permF) = t.kids.all exprB := every_all
def refExpr (t : Nd) : Bool :=
  bif decide (t.kind = 24) then (plainB t && lenK t 0) && decide (0 ≤ t.num)
  else bif decide (t.kind = 25) then (plainB t && lenK t 0) && (decide (t.num = 0) || decide (t.num = 1))
  else bif decide (t.kind = 26) then plainB t && lenK t 0
  else bif anyK [27, 34] t.kind then nameB t.text && lenK t 0
  else bif decide (t.kind = 28) then (nameB t.text && lenK t 1) && exprB (kidAt t 0)
  else bif decide (t.kind = 29) then (plainB t && lenK t 2) && t.kids.all exprB
  else bif decide (t.kind = 30) then (plainB t && decide (1 ≤ (t.kids.length : Int))) && t.kids.all exprB
  else bif decide (t.kind = 31) then ((decide (t.text = [45]) || decide (t.text = [33])) && lenK t 1) && exprB (kidAt t 0)
  else bif decide (t.kind = 32) then (anyS binOps t.text && lenK t 2) && t.kids.all exprB
  else bif anyK [33, 35, 36, 37] t.kind then (plainB t && lenK t 1) && exprB (kidAt t 0)
  else bif decide (t.kind = 38) then (plainB t && lenK t 1) && blockB (kidAt t 0)
  else false
theorem and_swap (a b c : Bool) : (a && b && c) = (a && (b && c)) := Bool.and_assoc a b c
theorem fl0 {t : Nd} {X : Bool} : (X && lenK t 0) = ((X && lenK t 0) && t.kids.all permF) := by rw [Bool.and_assoc, kids_0]
theorem fl0' {t : Nd} {X Y : Bool} : ((X && lenK t 0) && Y) = ((X && (lenK t 0 && Y)) && t.kids.all permF) := by
  rw [show ((X && (lenK t 0 && Y)) && t.kids.all permF) = ((X && Y) && (lenK t 0 && t.kids.all permF)) by simp only [Bool.and_assoc, Bool.and_comm, Bool.and_left_comm], kids_0]
  simp only [Bool.and_assoc, Bool.and_comm, Bool.and_left_comm]
theorem fl1 {t : Nd} {X : Bool} {q : Int → Bool} : ((X && lenK t 1) && (q (kidAt t 0).kind && permF (kidAt t 0))) = ((X && kidsB t [q]) && t.kids.all permF) := by rw [Bool.and_assoc, Bool.and_assoc, kids_1]
theorem fl2 {t : Nd} {X : Bool} : ((X && lenK t 2) && t.kids.all exprB) = ((X && kidsB t [expK, expK]) && t.kids.all permF) := by rw [Bool.and_assoc, Bool.and_assoc, kids_2, all_2]; rfl
theorem flv {t : Nd} {X Y Z : Bool} (h : Y = Z) : ((X && Y) && t.kids.all exprB) = ((X && (Z && everyB t expK)) && t.kids.all permF) := by rw [Bool.and_assoc, Bool.and_assoc, Bool.and_assoc, exp_all, h]
theorem refExpr_eq (t : Nd) : refExpr t = exprB t := by
  rw [exprB, permF_eq, locB]
  unfold refExpr textB' formB
  by_cases h : t.kind = 24
  · rw [h]; exact fl0'
  by_cases h1 : t.kind = 25
  · rw [h1]; exact fl0'
  by_cases h2 : t.kind = 26
  · rw [h2]; exact fl0
  by_cases h3 : t.kind = 27
  · rw [h3]; exact fl0
  by_cases h4 : t.kind = 34
  · rw [h4]; exact fl0
  by_cases h5 : t.kind = 28
  · rw [h5]; exact fl1
  by_cases h6 : t.kind = 29
  · rw [h6]; exact fl2
  by_cases h7 : t.kind = 30
  · rw [h7]; exact flv (by rw [decide_eq_decide]; omega)
  by_cases h8 : t.kind = 31
  · rw [h8]; exact fl1
  by_cases h9 : t.kind = 32
  · rw [h9]; exact fl2
  by_cases h10 : t.kind = 33
  · rw [h10]; exact fl1
  by_cases h11 : t.kind = 35
  · rw [h11]; exact fl1
  by_cases h12 : t.kind = 36
  · rw [h12]; exact fl1
  by_cases h13 : t.kind = 37
  · rw [h13]; exact fl1
  by_cases h14 : t.kind = 38
  · rw [h14]; refine Eq.trans ?_ (fl1 (X := plainB t) (q := memK [10])); rw [memK_one]; rfl
  simp only [expK, anyK, decide_eq_false h, decide_eq_false h1, decide_eq_false h2, decide_eq_false h3, decide_eq_false h4, decide_eq_false h5, decide_eq_false h6, decide_eq_false h7, decide_eq_false h8, decide_eq_false h9, decide_eq_false h10, decide_eq_false h11, decide_eq_false h12, decide_eq_false h13, decide_eq_false h14, Bool.or_false, cond_false, Bool.false_and]
def refBlock (t : Nd) : Bool := bif !decide (t.kind = 10) || !plainB t then false else t.kids.all stmtB
def refIf (t : Nd) : Bool := bif (!decide (t.kind = 18) || !plainB t) || !lenK t 3 then false else (exprB (kidAt t 0) && blockB (kidAt t 1)) && ((blockB (kidAt t 2) || ifB (kidAt t 2)) || noneB (kidAt t 2))
def refVar (t : Nd) : Bool := (((decide (t.kind = 6) && nameB t.text) && lenK t 2) && isTypeB (kidAt t 0)) && (noneB (kidAt t 1) || exprB (kidAt t 1))
theorem or_two (a b p : Bool) : ((a && p) || (b && p)) = ((b || a) && p) := by cases a <;> cases b <;> cases p <;> rfl
theorem or_three (a b c p : Bool) : (((a && p) || (b && p)) || (c && p)) = (((a || b) || c) && p) := by cases a <;> cases b <;> cases c <;> cases p <;> rfl
theorem not_if (a b : Bool) : (bif !a then false else b) = (a && b) := by cases a <;> rfl
theorem not_if2 (a b c : Bool) : (bif !a || !b then false else c) = ((a && b) && c) := by cases a <;> cases b <;> rfl
theorem not_if3 (a b c d : Bool) : (bif (!a || !b) || !c then false else d) = (((a && b) && c) && d) := by cases a <;> cases b <;> cases c <;> rfl
theorem noneB_eq (t : Nd) : noneB t = (decide (t.kind = 9) && permF t) := by
  rw [noneB]
  by_cases h : t.kind = 9
  · rw [permF_eq, locB, textB', formB, h, Bool.and_assoc]; exact congrArg (true && ·) fl0
  · rw [decide_eq_false h]; rfl
theorem isTypeB_eq (t : Nd) : isTypeB t = (typK t.kind && permF t) := by
  rw [permF_eq, locB]
  unfold isTypeB textB' formB
  by_cases h : t.kind = 8
  · rw [h]; exact fl0
  by_cases h1 : t.kind = 7
  · rw [h1]; exact fl0
  rw [decide_eq_false h, decide_eq_false h1, typK, anyK, anyK, decide_eq_false h, decide_eq_false h1]; rfl
theorem refBlock_eq (t : Nd) : refBlock t = blockB t := by
  rw [refBlock, blockB, not_if2]
  by_cases h : t.kind = 10
  · rw [permF_eq, locB, textB', formB, h, Bool.and_assoc]; exact congrArg (true && ·) (by
      refine Eq.trans ?_ (Bool.and_assoc (plainB t) (everyB t stK) _).symm
      rw [every_all]; rfl)
  · rw [decide_eq_false h]; rfl
theorem refIf_eq (t : Nd) : refIf t = ifB t := by
  rw [refIf, not_if3, show ifB t = (decide (t.kind = 18) && permF t) from rfl]
  by_cases h : t.kind = 18
  · rw [permF_eq, locB, textB', formB, h, Bool.and_assoc, Bool.and_assoc]; exact congrArg (true && ·) (by
      refine Eq.trans ?_ (Bool.and_assoc (plainB t) (kidsB t [expK, memK [10], memK [10, 18, 9]]) _).symm
      rw [kids_3, memK_one, noneB_eq, show memK [10, 18, 9] (kidAt t 2).kind = ((decide ((kidAt t 2).kind = 10) || decide ((kidAt t 2).kind = 18)) || decide ((kidAt t 2).kind = 9)) by simp [memK, Bool.or_assoc], ← or_three]; rfl)
  · rw [decide_eq_false h]; rfl
theorem refVar_eq (t : Nd) : refVar t = varB t := by
  rw [refVar, varB]
  by_cases h : t.kind = 6
  · rw [permF_eq, locB, textB', formB, h, Bool.and_assoc, Bool.and_assoc, Bool.and_assoc]; exact congrArg (true && ·) (by
      refine Eq.trans ?_ (Bool.and_assoc (nameB t.text) (kidsB t [typK, fun k => expK k || memK [9] k]) _).symm
      rw [kids_2, memK_one, noneB_eq, isTypeB_eq, show exprB (kidAt t 1) = (expK (kidAt t 1).kind && permF (kidAt t 1)) from rfl, or_two])
  · rw [decide_eq_false h]; rfl
def refComm (t : Nd) : Bool :=
  bif anyK [16, 9] t.kind then stmtB t || noneB t
  else bif decide (t.kind = 13) then stmtB t && decide ((kidAt t 0).kind = 33)
  else bif decide (t.kind = 12) then stmtB t && decide ((kidAt t 1).kind = 33)
  else bif decide (t.kind = 11) then stmtB t && decide ((kidAt t 0).kind = 33)
  else false
theorem perm_len1 {t : Nd} (h : t.kind = 13 ∨ t.kind = 11) (hp : permF t = true) : t.kids.length = 1 := by
  rw [permF_eq, locB, Bool.and_eq_true, Bool.and_eq_true] at hp
  have hf := hp.1.2
  rcases h with h | h <;> rw [formB, h] at hf
  · have : kidsB t [memK [30, 33]] = true := hf
    rw [kidsB, Bool.and_eq_true, decide_eq_true_eq] at this; exact this.1
  · have : kidsB t [expK] = true := hf
    rw [kidsB, Bool.and_eq_true, decide_eq_true_eq] at this; exact this.1
theorem perm_len2 {t : Nd} (h : t.kind = 12 ∨ t.kind = 6) (hp : permF t = true) : t.kids.length = 2 := by
  rw [permF_eq, locB, Bool.and_eq_true, Bool.and_eq_true] at hp
  have hf := hp.1.2
  rcases h with h | h <;> rw [formB, h] at hf
  · have : kidsB t [expK, expK] = true := hf
    rw [kidsB, Bool.and_eq_true, decide_eq_true_eq] at this; exact this.1
  · have : kidsB t [typK, fun k => expK k || memK [9] k] = true := hf
    rw [kidsB, Bool.and_eq_true, decide_eq_true_eq] at this; exact this.1
theorem and_mid {a b c : Bool} (h : a = true → b = true) : (a && c) = ((b && c) && a) := by revert h; cases a <;> cases b <;> cases c <;> simp
theorem refComm_eq (t : Nd) : refComm t = commF t := by
  rw [refComm, commF, noneB_eq, stmtB]
  unfold commB
  by_cases h : t.kind = 16
  · rw [h]; exact (show (permF t || false) = _ from Bool.or_false _)
  by_cases h1 : t.kind = 9
  · rw [h1]; rfl
  by_cases h2 : t.kind = 13
  · have hl : permF t = true → decide (((t.kids.length : Int) - 1) = 0) = true := fun hp => by rw [perm_len1 (.inl h2) hp]; rfl
    rw [h2]; exact (show _ = ((decide (((t.kids.length : Int) - 1) = 0) && decide ((kidAt t 0).kind = 33)) && permF t) from and_mid hl)
  by_cases h3 : t.kind = 12
  · have hl : permF t = true → decide (((t.kids.length : Int) - 1) = 1) = true := fun hp => by rw [perm_len2 (.inl h3) hp]; rfl
    rw [h3]; exact (show _ = ((decide (((t.kids.length : Int) - 1) = 1) && decide ((kidAt t 1).kind = 33)) && permF t) from and_mid hl)
  by_cases h4 : t.kind = 11
  · have hl : permF t = true → decide (((t.kids.length : Int) - 1) = 0) = true := fun hp => by rw [perm_len1 (.inr h4) hp]; rfl
    rw [h4]; exact (show _ = ((decide (((t.kids.length : Int) - 1) = 0) && decide ((kidAt t 0).kind = 33)) && permF t) from and_mid hl)
  simp only [anyK, decide_eq_false h, decide_eq_false h1, decide_eq_false h2, decide_eq_false h3, decide_eq_false h4, Bool.or_false, cond_false, Bool.false_and]
def caseB (t : Nd) : Bool := (((decide (t.kind = 23) && plainB t) && lenK t 2) && commF (kidAt t 0)) && blockB (kidAt t 1)
theorem caseB_eq (t : Nd) : caseB t = (decide (t.kind = 23) && permF t) := by
  rw [caseB]
  by_cases h : t.kind = 23
  · rw [permF_eq, locB, textB', formB, h]
    refine Eq.trans (b := ((plainB t && ((lenK t 2 && commB (kidAt t 0)) && memK [10] (kidAt t 1).kind)) && t.kids.all permF)) ?_ rfl
    rw [memK_one, show ((plainB t && ((lenK t 2 && commB (kidAt t 0)) && decide ((kidAt t 1).kind = 10))) && t.kids.all permF) = ((plainB t && (commB (kidAt t 0) && decide ((kidAt t 1).kind = 10))) && (lenK t 2 && t.kids.all permF)) by ac_rfl, all_2, commF, blockB]
    show (((plainB t && lenK t 2) && _) && _) = _
    ac_rfl
  · rw [decide_eq_false h]; rfl
def refSelect (t : Nd) : Bool := t.kids.all caseB && plainB t
theorem refSelect_eq {t : Nd} (h : t.kind = 22) : refSelect t = permF t := by
  rw [permF_eq, locB, textB', formB, h]
  refine Eq.trans (b := ((plainB t && everyB t (memK [23])) && t.kids.all permF)) ?_ rfl
  rw [Bool.and_assoc, every_all, refSelect, Bool.and_comm]
  congr 2
  funext k
  rw [caseB_eq, memK_one]
def refStmt (t : Nd) : Bool :=
  bif decide (t.kind = 6) then varB t
  else bif decide (t.kind = 10) then blockB t
  else bif decide (t.kind = 18) then ifB t
  else bif decide (t.kind = 22) then permF t
  else bif decide (t.kind = 11) then (nameB t.text && lenK t 1) && exprB (kidAt t 0)
  else bif anyK [12, 16] t.kind then (plainB t && lenK t 2) && t.kids.all exprB
  else bif decide (t.kind = 13) then (plainB t && lenK t 1) && (kindB (kidAt t 0) 30 || kindB (kidAt t 0) 33)
  else bif anyK [14, 15] t.kind then (plainB t && lenK t 1) && kindB (kidAt t 0) 30
  else bif anyK [17, 21] t.kind then (plainB t && lenK t 1) && exprB (kidAt t 0)
  else bif decide (t.kind = 20) then (plainB t && decide ((t.kids.length : Int) ≤ 1)) && t.kids.all exprB
  else bif decide (t.kind = 19) then ((plainB t && lenK t 2) && (noneB (kidAt t 0) || exprB (kidAt t 0))) && blockB (kidAt t 1)
  else false
theorem kindB_30 (t : Nd) : kindB t 30 = (memK [30] t.kind && permF t) := by
  rw [kindB, memK_one, exprB]
  by_cases h : t.kind = 30
  · rw [h]; rfl
  · rw [decide_eq_false h]; rfl
theorem kindB_33 (t : Nd) : kindB t 33 = (decide (t.kind = 33) && permF t) := by
  rw [kindB, exprB]
  by_cases h : t.kind = 33
  · rw [h]; rfl
  · rw [decide_eq_false h]; rfl
theorem kindB_or (t : Nd) : (kindB t 30 || kindB t 33) = (memK [30, 33] t.kind && permF t) := by
  rw [kindB_30, kindB_33, or_two, memK_one]; congr 1; simp [memK, Bool.or_comm]
theorem ret_len {t : Nd} : (decide ((t.kids.length : Int) ≤ 1) && t.kids.all exprB) = ((lenK t 0 || kidsB t [expK]) && t.kids.all permF) := by
  by_cases h : t.kids.length = 0
  · rw [List.length_eq_zero_iff.1 h, show lenK t 0 = true by rw [lenK, decide_eq_true_eq]; omega]; rfl
  by_cases h1 : t.kids.length = 1
  · rw [show lenK t 0 = false from lenK_f 0 h, Bool.false_or, kids_1, show decide ((t.kids.length : Int) ≤ 1) = lenK t 1 by rw [lenK, decide_eq_decide]; omega, all_1]; rfl
  · rw [show lenK t 0 = false from lenK_f 0 h, kidsB_f h1, decide_eq_false (by omega)]; rfl
theorem refStmt_eq (t : Nd) : refStmt t = stmtB t := by
  rw [stmtB]
  by_cases h : t.kind = 6
  · rw [refStmt, varB, h]; rfl
  by_cases h1 : t.kind = 10
  · rw [refStmt, blockB, h1]; rfl
  by_cases h2 : t.kind = 18
  · rw [refStmt, ifB, h2]; rfl
  by_cases h3 : t.kind = 22
  · rw [refStmt, h3]; rfl
  rw [permF_eq, locB]
  unfold refStmt textB' formB
  by_cases h4 : t.kind = 11
  · rw [h4]; exact fl1
  by_cases h5 : t.kind = 12
  · rw [h5]; exact fl2
  by_cases h6 : t.kind = 16
  · rw [h6]; exact fl2
  by_cases h7 : t.kind = 13
  · rw [h7]; refine Eq.trans ?_ (fl1 (X := plainB t) (q := memK [30, 33])); rw [← kindB_or]; rfl
  by_cases h8 : t.kind = 14
  · rw [h8]; refine Eq.trans ?_ (fl1 (X := plainB t) (q := memK [30])); rw [← kindB_30]; rfl
  by_cases h9 : t.kind = 15
  · rw [h9]; refine Eq.trans ?_ (fl1 (X := plainB t) (q := memK [30])); rw [← kindB_30]; rfl
  by_cases h10 : t.kind = 17
  · rw [h10]; exact fl1
  by_cases h11 : t.kind = 21
  · rw [h11]; exact fl1
  by_cases h12 : t.kind = 20
  · rw [h12]; refine Eq.trans (b := (plainB t && decide ((t.kids.length : Int) ≤ 1)) && t.kids.all exprB) rfl ?_
    rw [Bool.and_assoc, ret_len, ← Bool.and_assoc]; rfl
  by_cases h13 : t.kind = 19
  · rw [h13]
    refine Eq.trans (b := ((plainB t && lenK t 2) && (noneB (kidAt t 0) || exprB (kidAt t 0))) && blockB (kidAt t 1)) rfl (Eq.trans (b := ((plainB t && kidsB t [fun k => expK k || memK [9] k, memK [10]]) && t.kids.all permF)) ?_ rfl)
    rw [Bool.and_assoc (plainB t) (kidsB t _), kids_2, memK_one, memK_one, noneB_eq, show exprB (kidAt t 0) = (expK (kidAt t 0).kind && permF (kidAt t 0)) from rfl, or_two, blockB]
    ac_rfl
  simp only [stK, anyK, decide_eq_false h, decide_eq_false h1, decide_eq_false h2, decide_eq_false h3, decide_eq_false h4, decide_eq_false h5, decide_eq_false h6, decide_eq_false h7, decide_eq_false h8, decide_eq_false h9, decide_eq_false h10, decide_eq_false h11, decide_eq_false h12, decide_eq_false h13, Bool.or_false, cond_false, Bool.false_and]
end Go.Rk
