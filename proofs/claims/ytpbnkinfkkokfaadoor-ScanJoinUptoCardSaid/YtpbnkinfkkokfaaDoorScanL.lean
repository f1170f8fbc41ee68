/- The plain law: the program's step is the reference's. No program in sight. Conditions: none. -/
import Derived.Test.YtpbnkinfkkokfaaDoorScanS
namespace Go.Rk
open Go
theorem cAt_eq {s : List UInt8} {p : Nat} (h : p < s.length) : cAt s p = (s[p].toNat : Int) := by
  simp [cAt, List.getD_eq_getElem?_getD, List.getElem?_eq_getElem h]
theorem cAt_is {s : List UInt8} {p : Nat} (h : p < s.length) (u : UInt8) : decide (cAt s p = (u.toNat : Int)) = decide (s[p] = u) := by
  rw [cAt_eq h, Bool.eq_iff_iff]
  simp only [decide_eq_true_eq]
  constructor
  · intro e; exact UInt8.toNat_inj.mp (by omega)
  · rintro e; rw [e]
theorem pre_slashes {s : List UInt8} {p : Nat} (h : p < s.length) : preB [47, 47] (s.drop p) = ((decide (cAt s p = 47) && decide ((p : Int) + 1 < s.length)) && decide (cAt s (p + 1) = 47)) := by
  have e1 := cAt_is h 47
  rw [show ((47 : UInt8).toNat : Int) = 47 from rfl] at e1
  rw [preB, List.length_drop]
  by_cases h1 : p + 1 < s.length
  · have e2 := cAt_is h1 47
    rw [show ((47 : UInt8).toNat : Int) = 47 from rfl] at e2
    rw [e1, e2, decide_eq_true (by omega : (p : Int) + 1 < s.length), decide_eq_true (show [(47 : UInt8), 47].length ≤ s.length - p by simp; omega)]
    rw [List.drop_eq_getElem_cons h, List.drop_eq_getElem_cons h1]
    rw [show [(47 : UInt8), 47].length = 2 from rfl, Bool.eq_iff_iff]
    simp only [List.take_succ_cons, List.take_zero, decide_eq_true_eq, Bool.and_eq_true, Bool.true_and, Bool.and_true, List.cons.injEq, and_true]
  · rw [decide_eq_false (by omega : ¬ (p : Int) + 1 < s.length), decide_eq_false (show ¬ [(47 : UInt8), 47].length ≤ s.length - p by simp; omega)]
    simp
/-! operators -/
def ops2 : List (List UInt8) := opsL.take 8
def ops1 : List (List UInt8) := opsL.drop 8
theorem ops2_len : ∀ o ∈ ops2, o.length = 2 := by decide
theorem ops1_len : ∀ o ∈ ops1, o.length = 1 := by decide
theorem ops_split : opsL = ops2 ++ ops1 := (List.take_append_drop 8 opsL).symm
theorem any_pre {os : List (List UInt8)} {n : Nat} (h : ∀ o ∈ os, o.length = n) (l : List UInt8) : os.any (fun o => preB o l) = (decide (n ≤ l.length) && inB os (l.take n)) := by
  induction os with
  | nil => simp [inB]
  | cons o os ih =>
    have ho := h o (List.mem_cons_self ..)
    rw [List.any_cons, ih (fun x hx => h x (List.mem_cons_of_mem _ hx))]
    simp only [inB, List.any_cons, preB, ho]
    cases decide (n ≤ l.length) <;> simp
theorem inB_len {os : List (List UInt8)} {n : Nat} (h : ∀ o ∈ os, o.length = n) {l : List UInt8} (hl : l.length ≠ n) : inB os l = false := by
  rw [inB, List.any_eq_false]
  intro o ho
  have := h o ho
  simp only [decide_eq_true_eq]
  intro e; exact hl (e ▸ this)
theorem inB_app (a b : List (List UInt8)) (l : List UInt8) : inB (a ++ b) l = (inB a l || inB b l) := by simp [inB]
theorem find_len {os : List (List UInt8)} {n : Nat} (h : ∀ o ∈ os, o.length = n) (l : List UInt8) : (os.find? (fun o => preB o l)).map List.length = bif os.any (fun o => preB o l) then some n else none := by
  induction os with
  | nil => rfl
  | cons o os ih =>
    rw [List.find?_cons, List.any_cons]
    cases hp : preB o l
    · simpa using ih (fun x hx => h x (List.mem_cons_of_mem _ hx))
    · simp [h o (List.mem_cons_self ..)]
theorem opLen_map (l : List UInt8) : opLen l = ((opsL.find? (fun o => preB o l)).map List.length).getD 0 := by
  rw [opLen]; cases opsL.find? (fun o => preB o l) <;> rfl
theorem opLen_R (l : List UInt8) : opLen l = opLenR l := by
  have h2 := find_len ops2_len l
  have h1 := find_len ops1_len l
  have a2 := any_pre ops2_len l
  have a1 := any_pre ops1_len l
  rw [opLen_map, ops_split, List.find?_append]
  unfold opLenR
  rw [ops_split, inB_app, inB_app]
  by_cases hl2 : 2 ≤ l.length
  · rw [inB_len ops1_len (l := l.take 2) (by rw [List.length_take]; omega), inB_len ops2_len (l := l.take 1) (by rw [List.length_take]; omega), Bool.or_false, Bool.false_or, ← a2, ← a1]
    cases hx : ops2.find? (fun o => preB o l) with
    | some o => rw [hx] at h2; cases hy : ops2.any (fun o => preB o l) <;> rw [hy] at h2 <;> simp at h2 ⊢; exact h2
    | none =>
      rw [hx] at h2
      cases hy : ops2.any (fun o => preB o l)
      · cases hz : ops1.find? (fun o => preB o l) with
        | some o => rw [hz] at h1; cases hw : ops1.any (fun o => preB o l) <;> rw [hw] at h1 <;> simp at h1 ⊢; exact h1
        | none => rw [hz] at h1; cases hw : ops1.any (fun o => preB o l) <;> rw [hw] at h1 <;> simp at h1 ⊢
      · rw [hy] at h2; simp at h2
  · have e2 : ops2.any (fun o => preB o l) = false := by rw [a2, decide_eq_false hl2]; rfl
    rw [decide_eq_false hl2, Bool.false_and, cond_false]
    cases hx : ops2.find? (fun o => preB o l) with
    | some o => rw [hx, e2] at h2; simp at h2
    | none =>
      by_cases hl1 : 1 ≤ l.length
      · rw [inB_len ops2_len (l := l.take 1) (by rw [List.length_take]; omega), Bool.false_or, ← a1]
        cases hz : ops1.find? (fun o => preB o l) with
        | some o => rw [hz] at h1; cases hw : ops1.any (fun o => preB o l) <;> rw [hw] at h1 <;> simp at h1 ⊢; exact h1
        | none => rw [hz] at h1; cases hw : ops1.any (fun o => preB o l) <;> rw [hw] at h1 <;> simp at h1 ⊢
      · rw [decide_eq_false hl1, Bool.false_and] at a1 ⊢
        rw [a1] at h1
        cases hz : ops1.find? (fun o => preB o l) with
        | some o => rw [hz] at h1; simp at h1
        | none => rfl
theorem opLenR_le (l : List UInt8) : opLenR l ≤ l.length := by
  unfold opLenR
  cases h2 : decide (2 ≤ l.length) && inB opsL (l.take 2)
  · cases h1 : decide (1 ≤ l.length) && inB opsL (l.take 1)
    · exact Nat.zero_le _
    · simp only [Bool.and_eq_true, decide_eq_true_eq] at h1; exact h1.1
  · simp only [Bool.and_eq_true, decide_eq_true_eq] at h2; exact h2.1
/-! integers -/
theorem valN_low (l : List UInt8) (h : allD l) : ∀ a, a * 10 ^ l.length ≤ valN a l := by
  induction l with
  | nil => intro a; show a * 1 ≤ a; omega
  | cons c l ih =>
    intro a
    have := ih (fun x hx => h x (List.mem_cons_of_mem _ hx)) (a * 10 + (c.toNat - 48))
    rw [valN_cons, List.length_cons, Nat.pow_succ]
    refine Nat.le_trans ?_ this
    rw [show a * (10 ^ l.length * 10) = (a * 10) * 10 ^ l.length by rw [Nat.mul_assoc, Nat.mul_comm 10]]
    exact Nat.mul_le_mul_right _ (by omega)
theorem int_len {l : List UInt8} (h : allD l) (h0 : cAt l 0 ≠ 48) (hv : valN 0 l < 9223372036854775808) : l.length ≤ 19 := by
  cases l with
  | nil => simp
  | cons c l =>
    have hc := h c (List.mem_cons_self ..)
    have hne : c.toNat ≠ 48 := by intro e; exact h0 (by simp [cAt, e])
    have h1 := valN_low l (fun x hx => h x (List.mem_cons_of_mem _ hx)) (0 * 10 + (c.toNat - 48))
    rw [valN_cons] at hv
    have h2 : 10 ^ l.length ≤ (0 * 10 + (c.toNat - 48)) * 10 ^ l.length := Nat.le_mul_of_pos_left _ (by omega)
    by_cases hl : l.length ≤ 18
    · simp; omega
    · exfalso
      have h3 : (10 : Nat) ^ 19 ≤ 10 ^ l.length := Nat.pow_le_pow_right (by decide) (by omega)
      have h4 : (10 : Nat) ^ 19 = 10000000000000000000 := by decide
      omega
theorem nextF_tok {s : List UInt8} {p : Nat} (ts cs : List Tok) (h : p < s.length) (hb : (decide (cAt s p = 10) || ((decide (cAt s p = 32) || decide (cAt s p = 9)) || decide (cAt s p = 13))) = false) :
    nextF s p ts cs = bif !decide ((nextR s p).2 = 0) then (p, ts, cs, (nextR s p).2) else bif decide ((nextR s p).1.kind = 5) then (p + (nextR s p).1.text.length, ts, cs ++ [(nextR s p).1], 0) else (p + (nextR s p).1.text.length, ts ++ [(nextR s p).1], cs, 0) := by
  rw [Bool.or_eq_false_iff] at hb
  have hlen : ∀ n, p + n ≤ s.length → ((s.drop p).take n).length = n := fun n hn => by rw [List.length_take, List.length_drop]; omega
  unfold nextF nextR
  rw [hb.1, hb.2, pre_slashes h]
  cases h3 : (decide (cAt s p = 47) && decide ((p : Int) + 1 < s.length)) && decide (cAt s (p + 1) = 47)
  · cases h4 : letterB (cAt s p)
    · cases h6 : digitB (cAt s p)
      · simp only [cond_false]
        have hle := opLenR_le (s.drop p)
        rw [List.length_drop] at hle
        rw [opLen_R]
        cases h0 : Nat.beq (opLenR (s.drop p)) 0
        · have hne : opLenR (s.drop p) ≠ 0 := by intro e; rw [e] at h0; cases h0
          rw [decide_eq_false (show ¬ (s.drop p).take (opLenR (s.drop p)) = [] by intro e; have := congrArg List.length e; rw [hlen _ (by omega)] at this; exact hne this)]
          simp [hlen _ (show p + opLenR (s.drop p) ≤ s.length by omega)]
        · have e0 := Nat.eq_of_beq_eq_true h0
          rw [e0]; simp
      · simp only [cond_true, cond_false]
        have hf := runN_fit digitB h
        have hpos := runN_pos (q := digitB) h h6
        have hd := digits_allD s p
        have hl := hlen _ hf
        have hc0 : cAt ((s.drop p).take (runN digitB (s.drop p))) 0 = cAt s p := by
          rw [cAt_eq (by omega), cAt_eq h]; simp
        rw [badD]
        cases hlt : decide ((p : Int) + runN digitB (s.drop p) < s.length) && letterB (cAt s (p + runN digitB (s.drop p)))
        · simp only [Bool.or_false]
          rw [intOk, hl, hc0]
          by_cases hv : valN 0 ((s.drop p).take (runN digitB (s.drop p))) < 9223372036854775808
          · rw [decide_eq_true hv, decide_eq_true (show ((valN 0 ((s.drop p).take (runN digitB (s.drop p))) : Nat) : Int) < 9223372036854775808 by omega)]
            by_cases h48 : cAt s p = 48
            · rw [decide_eq_true h48]
              by_cases h1 : (1 : Int) < runN digitB (s.drop p)
              · rw [decide_eq_true h1]; simp
              · rw [decide_eq_false h1, decide_eq_true (show runN digitB (s.drop p) ≤ 19 by omega)]; simp [hl]
            · rw [decide_eq_false h48, decide_eq_true (show runN digitB (s.drop p) ≤ 19 by rw [← hl]; exact int_len hd (by rw [hc0]; exact h48) hv)]; simp [hl]
          · rw [decide_eq_false hv, decide_eq_false (show ¬ ((valN 0 ((s.drop p).take (runN digitB (s.drop p))) : Nat) : Int) < 9223372036854775808 by omega)]
            cases (decide (cAt s p = 48) && decide ((1 : Int) < runN digitB (s.drop p))) <;> simp
        · simp
    · simp only [cond_true, cond_false]
      have hf := runN_fit isAlnum h
      cases h5 : decide ((32 : Int) < runN isAlnum (s.drop p))
      · rw [wordK]
        cases inB kws ((s.drop p).take (runN isAlnum (s.drop p))) <;> simp [hlen _ hf]
      · simp
  · have hc : cAt s p = 47 := by simp only [Bool.and_eq_true, decide_eq_true_eq] at h3; exact h3.1.1
    have h4 : letterB (cAt s p) = false := by rw [hc]; rfl
    have h6 : digitB (cAt s p) = false := by rw [hc]; rfl
    have hf := runN_fit isNotLf h
    rw [h4, h6]
    simp [hlen _ hf]
end Go.Rk
