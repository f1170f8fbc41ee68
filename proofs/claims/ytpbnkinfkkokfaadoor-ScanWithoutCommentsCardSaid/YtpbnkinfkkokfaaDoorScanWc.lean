/- The plain law of comments: a text whose comments are blanked scans alike. No program in sight. Conditions: none. -/
import Derived.Test.YtpbnkinfkkokfaaDoorScanCat
import Derived.Test.YtpbnkinfkkokfaaDoorScanQ
namespace Go.Rk
open Go
/-- A place lies in one of some comments. -/
def inCom (cs : List Tok) (i : Nat) : Prop := ∃ t ∈ cs, t.pos ≤ (i : Int) ∧ (i : Int) < t.pos + t.text.length
/-- s' is s but for blanks in the comments. -/
structure Blanked (s s' : List UInt8) (cs : List Tok) : Prop where
  len : s'.length = s.length
  inn : ∀ i, i < s.length → inCom cs i → cAt s' i = 32
  out : ∀ i, i < s.length → ¬ inCom cs i → cAt s' i = cAt s i
/-- The comments that a scanning adds lie behind its place, begin with a slash, and fit. -/
def ComAt (s : List UInt8) (p : Nat) (t : Tok) : Prop := ∃ q : Nat, t.pos = (q : Int) ∧ p ≤ q ∧ cAt s q = 47 ∧ q + t.text.length ≤ s.length
theorem nextF_com {s : List UInt8} {p : Nat} (hp : p < s.length) (ts cs : List Tok) : ((nextF s p ts cs).2.2.1 = cs) ∨
    (decide (cAt s p = 10) = false ∧ ((decide (cAt s p = 32) || decide (cAt s p = 9)) || decide (cAt s p = 13)) = false ∧ preB [47, 47] (s.drop p) = true ∧ nextF s p ts cs = (p + runN isNotLf (s.drop p), ts, cs ++ [⟨5, (s.drop p).take (runN isNotLf (s.drop p)), p⟩], 0)) := by
  unfold nextF
  cases decide (cAt s p = 10)
  · cases ((decide (cAt s p = 32) || decide (cAt s p = 9)) || decide (cAt s p = 13))
    · cases preB [47, 47] (s.drop p)
      · left
        cases letterB (cAt s p)
        · cases digitB (cAt s p)
          · cases Nat.beq (opLen (s.drop p)) 0 <;> rfl
          · cases badD s p (runN digitB (s.drop p))
            · cases decide (valN 0 ((s.drop p).take (runN digitB (s.drop p))) < 9223372036854775808) <;> rfl
            · rfl
        · cases decide ((32 : Int) < runN isAlnum (s.drop p)) <;> rfl
      · right; exact ⟨rfl, rfl, rfl, rfl⟩
    · left; rfl
  · left; rfl
theorem slash_at {s : List UInt8} {p : Nat} (hp : p < s.length) (h : preB [47, 47] (s.drop p) = true) : cAt s p = 47 := by
  rw [pre_slashes hp] at h
  simp only [Bool.and_eq_true, decide_eq_true_eq] at h
  exact h.1.1
theorem goF_coms (s : List UInt8) : ∀ (f p : Nat) (ts cs : List Tok), ∃ new, (goF s f p ts cs).2.2.1 = cs ++ new ∧ ∀ t ∈ new, ComAt s p t := by
  intro f
  induction f with
  | zero => intro p ts cs; exact ⟨[], by simp [goF], by simp⟩
  | succ f ih =>
    intro p ts cs
    by_cases hp : p < s.length
    · rw [goF_step hp]
      have hone : ∃ new, (nextF s p ts cs).2.2.1 = cs ++ new ∧ ∀ t ∈ new, ComAt s p t := by
        rcases nextF_com hp ts cs with h | ⟨_, _, h3, h⟩
        · exact ⟨[], by rw [h]; simp, by simp⟩
        · refine ⟨[⟨5, (s.drop p).take (runN isNotLf (s.drop p)), p⟩], by rw [h], fun t ht => ?_⟩
          have ht : t = ⟨5, (s.drop p).take (runN isNotLf (s.drop p)), p⟩ := by simpa using ht
          subst ht
          have hf := runN_fit isNotLf hp
          exact ⟨p, rfl, Nat.le_refl _, slash_at hp h3, by simp only [List.length_take, List.length_drop]; omega⟩
      obtain ⟨n1, e1, h1⟩ := hone
      cases h0 : decide ((nextF s p ts cs).2.2.2 = 0)
      · exact ⟨n1, e1, h1⟩
      · rw [cond_true]
        have hlt := nextF_lt hp (of_decide_eq_true h0)
        obtain ⟨n2, e2, h2⟩ := ih (nextF s p ts cs).1 (nextF s p ts cs).2.1 (nextF s p ts cs).2.2.1
        refine ⟨n1 ++ n2, by rw [e2, e1, List.append_assoc], fun t ht => ?_⟩
        rcases List.mem_append.mp ht with h | h
        · exact h1 t h
        · obtain ⟨q, q1, q2, q3⟩ := h2 t h
          exact ⟨q, q1, by omega, q3⟩
    · rw [goF_end hp]; exact ⟨[], by simp, by simp⟩
theorem getElem_of_cAt {s s' : List UInt8} {i : Nat} (h : i < s.length) (h' : i < s'.length) (e : cAt s' i = cAt s i) : s'[i] = s[i] := by
  rw [cAt_eq h, cAt_eq h'] at e
  exact UInt8.toNat_inj.mp (by omega)
/-- Alike up to a place q, and there either alike or a slash against a blank. -/
structure Near (s s' : List UInt8) (p q : Nat) : Prop where
  len : s'.length = s.length
  same : ∀ i, p ≤ i → i < q → i < s.length → cAt s' i = cAt s i
  edge : q < s.length → cAt s' q = cAt s q ∨ (cAt s q = 47 ∧ cAt s' q = 32)
theorem runN_near {q : Int → Bool} {s s' : List UInt8} (hq1 : q 47 = false) (hq2 : q 32 = false) {p : Nat} (h : Near s s' p (p + runN q (s.drop p))) (hp : p ≤ s.length) : runN q (s'.drop p) = runN q (s.drop p) := by
  have hle : p + runN q (s.drop p) ≤ s.length := by have := runN_le q (s.drop p); rw [List.length_drop] at this; omega
  have key : ∀ k n, k + n = runN q (s.drop p) → runN q (s.drop (p + n)) = k ∧ runN q (s'.drop (p + n)) = k := by
    intro k
    induction k with
    | zero =>
      intro n hn
      have h0 : runN q (s.drop (p + n)) = 0 := by
        have hall : ∀ m, m ≤ runN q (s.drop p) → runN q (s.drop (p + m)) = runN q (s.drop p) - m := by
          intro m
          induction m with
          | zero => intro _; simp
          | succ m ih =>
            intro hm
            have := ih (by omega)
            have hlt : p + m < s.length := by omega
            cases hqc : q (cAt s (p + m)) with
            | true => have h2 := runN_step (q := q) hlt hqc; rw [Nat.add_assoc] at h2; omega
            | false => have h2 := runN_stop (q := q) (s := s) (k := p + m) (fun _ => hqc); omega
        have := hall n (by omega); omega
      refine ⟨h0, runN_stop fun hk => ?_⟩
      have hn' : n = runN q (s.drop p) := by omega
      subst hn'
      rw [h.len] at hk
      rcases h.edge hk with e | ⟨_, e⟩
      · show q (cAt s' _) = false
        rw [e]
        cases hqc : q (cAt s (p + runN q (s.drop p))) with
        | true => have h2 := runN_step (q := q) hk hqc; omega
        | false => rfl
      · show q (cAt s' _) = false
        rw [e, hq2]
    | succ k ih =>
      intro n hn
      obtain ⟨i1, i2⟩ := ih (n + 1) (by omega)
      have hlt : p + n < s.length := by omega
      have hqc : q (cAt s (p + n)) = true := by
        have hall := runN_all q (s.drop p) (s[p + n]) (by
          rw [List.mem_iff_getElem]
          exact ⟨n, by rw [List.length_take, List.length_drop]; omega, by simp⟩)
        rw [cAt_eq hlt]; exact hall
      have hqc' : q (cAt s' (p + n)) = true := by rw [h.same (p + n) (by omega) (by omega) hlt]; exact hqc
      have s1 := runN_step (q := q) hlt hqc
      have s2 := runN_step (q := q) (s := s') (k := p + n) (by rw [h.len]; exact hlt) hqc'
      rw [Nat.add_assoc] at s1 s2
      exact ⟨by omega, by omega⟩
  have := (key (runN q (s.drop p)) 0 (by omega)).2
  simpa using this
theorem take_near {s s' : List UInt8} {p n : Nat} (hl : s'.length = s.length) (h : ∀ i, p ≤ i → i < p + n → i < s.length → cAt s' i = cAt s i) : (s'.drop p).take n = (s.drop p).take n := by
  apply List.ext_getElem
  · simp [hl]
  · intro i h1 h2
    rw [List.length_take, List.length_drop] at h1 h2
    rw [List.getElem_take, List.getElem_take, List.getElem_drop, List.getElem_drop]
    exact getElem_of_cAt (by omega) (by omega) (h (p + i) (by omega) (by omega) (by omega))
theorem ops_no_bl : opsL.all (fun o => !o.contains 32) = true := by decide
theorem inB_no_bl {l : List UInt8} (h : (32 : UInt8) ∈ l) : inB opsL l = false := by
  rw [inB, List.any_eq_false]
  intro o ho
  have := List.all_eq_true.mp ops_no_bl o ho
  simp only [decide_eq_true_eq]
  rintro rfl
  simp [h] at this
/-- How far a step looks and takes. -/
def reach (s : List UInt8) (p : Nat) : Nat :=
  bif decide (cAt s p = 10) then 1 else bif (decide (cAt s p = 32) || decide (cAt s p = 9)) || decide (cAt s p = 13) then 1
  else bif letterB (cAt s p) then runN isAlnum (s.drop p) else bif digitB (cAt s p) then runN digitB (s.drop p) else bif Nat.beq (opLen (s.drop p)) 0 then 1 else opLen (s.drop p)
theorem reach_pos {s : List UInt8} {p : Nat} (hp : p < s.length) : 1 ≤ reach s p := by
  unfold reach
  cases decide (cAt s p = 10)
  · cases ((decide (cAt s p = 32) || decide (cAt s p = 9)) || decide (cAt s p = 13))
    · cases h4 : letterB (cAt s p)
      · cases h6 : digitB (cAt s p)
        · cases h8 : Nat.beq (opLen (s.drop p)) 0
          · simp only [cond_false]
            have : opLen (s.drop p) ≠ 0 := by intro h0; rw [h0] at h8; cases h8
            omega
          · exact Nat.le_refl _
        · exact runN_pos (q := digitB) hp h6
      · exact runN_pos (q := isAlnum) hp (by rw [isAlnum, h4]; rfl)
    · exact Nat.le_refl _
  · exact Nat.le_refl _
theorem nextF_reach {s : List UInt8} {p : Nat} (ts cs : List Tok) (hnc : decide (cAt s p = 10) = true ∨ ((decide (cAt s p = 32) || decide (cAt s p = 9)) || decide (cAt s p = 13)) = true ∨ preB [47, 47] (s.drop p) = false) (he : (nextF s p ts cs).2.2.2 = 0) : (nextF s p ts cs).1 = p + reach s p := by
  unfold nextF at he ⊢
  unfold reach
  cases h1 : decide (cAt s p = 10)
  · cases h2 : ((decide (cAt s p = 32) || decide (cAt s p = 9)) || decide (cAt s p = 13))
    · have h3 : preB [47, 47] (s.drop p) = false := by
        rcases hnc with h | h | h
        · rw [h1] at h; cases h
        · rw [h2] at h; cases h
        · exact h
      rw [h1, h2, h3] at he
      rw [h3]
      cases h4 : letterB (cAt s p)
      · rw [h4] at he
        cases h6 : digitB (cAt s p)
        · rw [h6] at he
          cases h8 : Nat.beq (opLen (s.drop p)) 0
          · rfl
          · rw [h8] at he; simp at he
        · rw [h6] at he
          cases h8 : badD s p (runN digitB (s.drop p))
          · rw [h8] at he
            cases h9 : decide (valN 0 ((s.drop p).take (runN digitB (s.drop p))) < 9223372036854775808)
            · rw [h9] at he; simp at he
            · rfl
          · rw [h8] at he; simp at he
      · rw [h4] at he
        cases h5 : decide ((32 : Int) < runN isAlnum (s.drop p))
        · rfl
        · rw [h5] at he; simp at he
    · rfl
  · rfl
theorem opLen_near {s s' : List UInt8} {p : Nat} (hp : p < s.length) (h : Near s s' p (p + (bif Nat.beq (opLen (s.drop p)) 0 then 1 else opLen (s.drop p)))) : opLen (s'.drop p) = opLen (s.drop p) := by
  rw [opLen_R] at h
  rw [opLen_R, opLen_R]
  have hl : (s'.drop p).length = (s.drop p).length := by rw [List.length_drop, List.length_drop, h.len]
  have hpos : 1 ≤ (bif Nat.beq (opLenR (s.drop p)) 0 then 1 else opLenR (s.drop p)) := by
    cases h8 : Nat.beq (opLenR (s.drop p)) 0
    · simp only [cond_false]
      have : opLenR (s.drop p) ≠ 0 := by intro h0; rw [h0] at h8; cases h8
      omega
    · exact Nat.le_refl _
  have t1 : (s'.drop p).take 1 = (s.drop p).take 1 := take_near h.len (fun i h1 h2 h3 => h.same i h1 (by omega) h3)
  have t2 : (decide (2 ≤ (s'.drop p).length) && inB opsL ((s'.drop p).take 2)) = (decide (2 ≤ (s.drop p).length) && inB opsL ((s.drop p).take 2)) := by
    rw [hl]
    by_cases h2 : 2 ≤ (s.drop p).length
    · rw [decide_eq_true h2, Bool.true_and, Bool.true_and]
      rw [List.length_drop] at h2
      by_cases hc : cAt s' (p + 1) = cAt s (p + 1)
      · rw [take_near h.len (fun i h3 h4 h5 => ?_)]
        by_cases e : i = p
        · rw [e]; exact h.same p (Nat.le_refl _) (by omega) hp
        · rw [show i = p + 1 by omega]; exact hc
      · have hr : p + (bif Nat.beq (opLenR (s.drop p)) 0 then 1 else opLenR (s.drop p)) = p + 1 := by
          by_cases e : p + 1 < p + (bif Nat.beq (opLenR (s.drop p)) 0 then 1 else opLenR (s.drop p))
          · exact absurd (h.same (p + 1) (by omega) e (by omega)) hc
          · omega
        have he := h.edge (by rw [hr]; omega)
        rw [hr] at he
        rcases he with e | ⟨_, e⟩
        · exact absurd e hc
        · have hlt : p + 1 < s'.length := by rw [h.len]; omega
          have hm : (32 : UInt8) ∈ (s'.drop p).take 2 := by
            have e2 : s'[p + 1] = 32 := by
              rw [cAt_eq hlt] at e
              exact UInt8.toNat_inj.mp (by rw [show ((32 : UInt8).toNat) = 32 from rfl]; omega)
            rw [List.mem_iff_getElem]
            exact ⟨1, by rw [List.length_take, List.length_drop]; omega, by simp [e2]⟩
          rw [inB_no_bl hm]
          have h0 : opLenR (s.drop p) ≠ 2 := by
            intro e2; rw [e2] at hr; have hr2 : p + 2 = p + 1 := hr; omega
          unfold opLenR at h0
          rw [decide_eq_true (by rw [List.length_drop]; omega : 2 ≤ (s.drop p).length), Bool.true_and] at h0
          cases hx : inB opsL ((s.drop p).take 2)
          · rfl
          · rw [hx] at h0; exact absurd rfl h0
    · rw [decide_eq_false h2, Bool.false_and, Bool.false_and]
  unfold opLenR
  rw [t1, t2, hl]
theorem nextF_near {s s' : List UInt8} {p : Nat} (hp : p < s.length) (ts cs cs' : List Tok) (hnc : decide (cAt s p = 10) = true ∨ ((decide (cAt s p = 32) || decide (cAt s p = 9)) || decide (cAt s p = 13)) = true ∨ preB [47, 47] (s.drop p) = false)
    (h : Near s s' p (p + reach s p)) : (nextF s' p ts cs').1 = (nextF s p ts cs).1 ∧ (nextF s' p ts cs').2.1 = (nextF s p ts cs).2.1 ∧ (nextF s' p ts cs').2.2.2 = (nextF s p ts cs).2.2.2 := by
  have hr := reach_pos hp
  have hc := h.same p (Nat.le_refl _) (by omega) hp
  unfold nextF
  rw [hc]
  unfold reach at h
  cases h1 : decide (cAt s p = 10)
  · cases h2 : ((decide (cAt s p = 32) || decide (cAt s p = 9)) || decide (cAt s p = 13))
    · have h3 : preB [47, 47] (s.drop p) = false := by
        rcases hnc with h | h | h
        · rw [h1] at h; cases h
        · rw [h2] at h; cases h
        · exact h
      rw [h1, h2] at h
      simp only [cond_false] at h
      have h3' : preB [47, 47] (s'.drop p) = false := by
        rw [pre_slashes (by rw [h.len]; exact hp), hc, h.len]
        rw [pre_slashes hp] at h3
        by_cases h47 : cAt s p = 47
        · have e4 : letterB (cAt s p) = false := by rw [h47]; rfl
          have e6 : digitB (cAt s p) = false := by rw [h47]; rfl
          rw [e4, e6] at h
          simp only [cond_false] at h
          by_cases hlt : p + 1 < s.length
          · rw [h47, decide_eq_true rfl, decide_eq_true (by omega : (p : Int) + 1 < (s.length : Nat))] at h3 ⊢
            simp only [Bool.true_and] at h3 ⊢
            by_cases hin : p + 1 < p + (bif Nat.beq (opLen (s.drop p)) 0 then 1 else opLen (s.drop p))
            · rw [h.same (p + 1) (by omega) hin hlt]; exact h3
            · have hpos : 1 ≤ (bif Nat.beq (opLen (s.drop p)) 0 then 1 else opLen (s.drop p)) := by
                cases h8 : Nat.beq (opLen (s.drop p)) 0
                · simp only [cond_false]
                  have : opLen (s.drop p) ≠ 0 := by intro h0; rw [h0] at h8; cases h8
                  omega
                · exact Nat.le_refl _
              have hq : p + (bif Nat.beq (opLen (s.drop p)) 0 then 1 else opLen (s.drop p)) = p + 1 := by omega
              have he := h.edge (by rw [hq]; exact hlt)
              rw [hq] at he
              rcases he with e | ⟨_, e⟩
              · rw [e]; exact h3
              · rw [e]; rfl
          · rw [decide_eq_false (by omega : ¬ (p : Int) + 1 < (s.length : Nat))]; simp
        · rw [decide_eq_false h47]; rfl
      rw [h3, h3']
      cases h4 : letterB (cAt s p)
      · rw [h4] at h
        simp only [cond_false] at h
        cases h6 : digitB (cAt s p)
        · rw [h6] at h
          simp only [cond_false] at h
          have eo := opLen_near hp h
          rw [eo]
          cases h8 : Nat.beq (opLen (s.drop p)) 0
          · rw [h8] at h
            simp only [cond_false] at h
            rw [take_near h.len (fun i a b c => h.same i a b c)]
            exact ⟨rfl, rfl, rfl⟩
          · exact ⟨rfl, rfl, rfl⟩
        · rw [h6] at h
          simp only [cond_true] at h
          have er := runN_near (q := digitB) (by decide) (by decide) h (by omega)
          have et := take_near h.len (fun i a b c => h.same i a b c)
          have eb : badD s' p (runN digitB (s.drop p)) = badD s p (runN digitB (s.drop p)) := by
            unfold badD
            rw [hc, h.len]
            by_cases hlt : p + runN digitB (s.drop p) < s.length
            · rcases h.edge hlt with e | ⟨e1, e2⟩
              · rw [e]
              · rw [e1, e2, show letterB 32 = letterB 47 by decide]
            · rw [decide_eq_false (by omega : ¬ (p : Int) + runN digitB (s.drop p) < (s.length : Nat)), Bool.false_and, Bool.false_and]
          rw [er, et, eb]
          cases badD s p (runN digitB (s.drop p))
          · cases decide (valN 0 ((s.drop p).take (runN digitB (s.drop p))) < 9223372036854775808)
            · exact ⟨rfl, rfl, rfl⟩
            · exact ⟨rfl, rfl, rfl⟩
          · exact ⟨rfl, rfl, rfl⟩
      · rw [h4] at h
        simp only [cond_true] at h
        have er := runN_near (q := isAlnum) (by decide) (by decide) h (by omega)
        have et := take_near h.len (fun i a b c => h.same i a b c)
        rw [er, et]
        cases decide ((32 : Int) < runN isAlnum (s.drop p))
        · exact ⟨rfl, rfl, rfl⟩
        · exact ⟨rfl, rfl, rfl⟩
    · exact ⟨rfl, rfl, rfl⟩
  · exact ⟨rfl, rfl, rfl⟩
/-- Blanks are passed over. -/
theorem goF_blanks {s : List UInt8} : ∀ (n p F : Nat) (ts cs : List Tok), p + n ≤ s.length → n ≤ F → (∀ i, p ≤ i → i < p + n → cAt s i = 32) → goF s F p ts cs = goF s (F - n) (p + n) ts cs
  | 0, p, F, ts, cs, _, _, _ => rfl
  | n + 1, p, F, ts, cs, h1, h2, h3 => by
    obtain ⟨F', rfl⟩ : ∃ F', F = F' + 1 := ⟨F - 1, by omega⟩
    have hc := h3 p (Nat.le_refl _) (by omega)
    have hst : nextF s p ts cs = (p + 1, ts, cs, 0) := by unfold nextF; rw [hc]; rfl
    rw [goF_step (by omega), hst]
    have ih := goF_blanks n (p + 1) F' ts cs (by omega) (by omega) (fun i a b => h3 i (by omega) (by omega))
    show goF s F' (p + 1) ts cs = _
    rw [ih, show p + 1 + n = p + (n + 1) by omega, show F' + 1 - (n + 1) = F' - n by omega]
theorem goF_blanked {s s' : List UInt8} : ∀ (f p : Nat) (ts cs : List Tok), p ≤ s.length → s.length - p ≤ f → (∀ t ∈ cs, t.pos + t.text.length ≤ (p : Int)) → Blanked s s' (goF s f p ts cs).2.2.1 → ∀ F cs', s.length - p ≤ F →
    (goF s' F p ts cs').1 = (goF s f p ts cs).1 ∧ (goF s' F p ts cs').2.1 = (goF s f p ts cs).2.1 ∧ (goF s' F p ts cs').2.2.2 = (goF s f p ts cs).2.2.2 := by
  intro f
  induction f with
  | zero =>
    intro p ts cs h1 h2 h3 hB F cs' hF
    rw [goF_end (s := s') (by rw [hB.len]; omega)]
    exact ⟨rfl, rfl, rfl⟩
  | succ f ih =>
    intro p ts cs h1 h2 h3 hB F cs' hF
    by_cases hp : p < s.length
    · rw [goF_step hp] at hB ⊢
      obtain ⟨F', rfl⟩ : ∃ F', F = F' + 1 := ⟨F - 1, by omega⟩
      rcases nextF_com hp ts cs with hcs | ⟨e1, e2, e3, hst⟩
      · have hnc : decide (cAt s p = 10) = true ∨ ((decide (cAt s p = 32) || decide (cAt s p = 9)) || decide (cAt s p = 13)) = true ∨ preB [47, 47] (s.drop p) = false := by
          cases a1 : decide (cAt s p = 10)
          · cases a2 : ((decide (cAt s p = 32) || decide (cAt s p = 9)) || decide (cAt s p = 13))
            · cases a3 : preB [47, 47] (s.drop p)
              · exact .inr (.inr rfl)
              · exfalso
                have : (nextF s p ts cs).2.2.1 = cs ++ [⟨5, (s.drop p).take (runN isNotLf (s.drop p)), p⟩] := by unfold nextF; rw [a1, a2, a3]; rfl
                rw [hcs] at this
                have := congrArg List.length this
                simp at this
            · exact .inr (.inl rfl)
          · exact .inl rfl
        have past : ∀ i, p ≤ i → ∀ t ∈ cs, ¬ (t.pos ≤ (i : Int) ∧ (i : Int) < t.pos + t.text.length) := fun i hi t ht hh => by have := h3 t ht; omega
        cases h0 : decide ((nextF s p ts cs).2.2.2 = 0)
        · rw [h0, cond_false, hcs] at hB
          have hN : Near s s' p (p + reach s p) := ⟨hB.len, fun i a b c => hB.out i c (fun ⟨t, ht, hh⟩ => past i a t ht hh), fun hq => .inl (hB.out _ hq (fun ⟨t, ht, hh⟩ => past _ (by omega) t ht hh))⟩
          obtain ⟨n1, n2, n3⟩ := nextF_near hp ts cs cs' hnc hN
          rw [goF_step (by rw [hB.len]; exact hp), n3, h0, cond_false, cond_false]
          exact ⟨n1, n2, n3⟩
        · rw [h0, cond_true] at hB
          have e0 := of_decide_eq_true h0
          have hr := nextF_reach ts cs hnc e0
          have hle := nextF_le ts cs hp
          have hlt := nextF_lt hp e0
          obtain ⟨new, en, hn⟩ := goF_coms s f (nextF s p ts cs).1 (nextF s p ts cs).2.1 (nextF s p ts cs).2.2.1
          have hout : ∀ i, p ≤ i → i < (nextF s p ts cs).1 → ¬ inCom (goF s f (nextF s p ts cs).1 (nextF s p ts cs).2.1 (nextF s p ts cs).2.2.1).2.2.1 i := by
            rintro i a b ⟨t, ht, hh⟩
            rw [en, hcs] at ht
            rcases List.mem_append.mp ht with ht | ht
            · exact past i a t ht hh
            · obtain ⟨q, q1, q2, _⟩ := hn t ht
              omega
          have hN : Near s s' p (p + reach s p) := by
            rw [← hr]
            refine ⟨hB.len, fun i a b c => hB.out i c (hout i a b), fun hq => ?_⟩
            by_cases hi : inCom (goF s f (nextF s p ts cs).1 (nextF s p ts cs).2.1 (nextF s p ts cs).2.2.1).2.2.1 (nextF s p ts cs).1
            · right
              refine ⟨?_, hB.inn _ hq hi⟩
              obtain ⟨t, ht, hh⟩ := hi
              rw [en, hcs] at ht
              rcases List.mem_append.mp ht with ht | ht
              · exact absurd hh (past _ (by omega) t ht)
              · obtain ⟨q, q1, q2, q3, _⟩ := hn t ht
                rw [show (nextF s p ts cs).1 = q by omega]; exact q3
            · left; exact hB.out _ hq hi
          obtain ⟨n1, n2, n3⟩ := nextF_near hp ts cs cs' hnc hN
          rw [goF_step (by rw [hB.len]; exact hp), n3, h0, cond_true, cond_true, n1, n2]
          refine ih _ _ _ hle (by omega) ?_ hB _ _ (by omega)
          rw [hcs]
          intro t ht
          have := h3 t ht
          omega
      · rw [hst] at hB ⊢
        have hf := runN_fit isNotLf hp
        have hpos := runN_pos (q := isNotLf) hp (by rw [isNotLf, e1]; rfl)
        have hlen : ((s.drop p).take (runN isNotLf (s.drop p))).length = runN isNotLf (s.drop p) := by rw [List.length_take, List.length_drop]; omega
        simp only [decide_true, cond_true] at hB ⊢
        obtain ⟨new, en, hn⟩ := goF_coms s f (p + runN isNotLf (s.drop p)) ts (cs ++ [⟨5, (s.drop p).take (runN isNotLf (s.drop p)), p⟩])
        rw [goF_blanks (s := s') (runN isNotLf (s.drop p)) p (F' + 1) ts cs' (by rw [hB.len]; exact hf) (by omega) (fun i a b => hB.inn i (by omega) ⟨⟨5, (s.drop p).take (runN isNotLf (s.drop p)), p⟩, by rw [en]; simp, by simp only [hlen]; omega⟩)]
        refine ih _ _ _ hf (by omega) ?_ hB _ _ (by omega)
        intro t ht
        rcases List.mem_append.mp ht with ht | ht
        · have := h3 t ht; omega
        · have ht : t = ⟨5, (s.drop p).take (runN isNotLf (s.drop p)), p⟩ := by simpa using ht
          subst ht
          simp only [hlen]; omega
    · rw [goF_end hp, goF_end (s := s') (by rw [hB.len]; exact hp)]
      exact ⟨rfl, rfl, rfl⟩
theorem scan_blanked {s s' : List UInt8} (h : s.length ≤ 20000) (hB : Blanked s s' (allF s).2.2.1) : scanF s' = scanF s := by
  have hl := hB.len
  have e1 : allF s = goF s s.length 0 [] [] := by rw [allF, decide_eq_false (by omega : ¬ (20000 : Int) < (s.length : Nat))]; rfl
  have e2 : allF s' = goF s' s'.length 0 [] [] := by rw [allF, decide_eq_false (by omega : ¬ (20000 : Int) < (s'.length : Nat))]; rfl
  rw [e1] at hB
  obtain ⟨n1, n2, n3⟩ := goF_blanked (s := s) (s' := s') s.length 0 [] [] (Nat.zero_le _) (Nat.sub_le _ _) (fun t ht => by cases ht) hB s'.length [] (by omega)
  rw [scanF, scanF, e1, e2, n1, n2, n3]
end Go.Rk
