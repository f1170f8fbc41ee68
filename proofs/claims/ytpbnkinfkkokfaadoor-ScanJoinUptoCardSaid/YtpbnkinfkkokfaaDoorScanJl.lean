/- The plain law of Join: the joined texts of scanned tokens scan to the same kinds and texts. No program in sight. Conditions: none. -/
import Derived.Test.YtpbnkinfkkokfaaDoorScanCat
import Derived.Test.YtpbnkinfkkokfaaDoorScanQ
namespace Go.Rk
open Go
/-- What a scanned token is. -/
inductive TokOk (t : Tok) : Prop
  | word (c : UInt8) (l : List UInt8) (h : t.text = c :: l) (h1 : letterB c.toNat = true) (h2 : ∀ x ∈ t.text, isAlnum x.toNat = true) (h3 : t.text.length ≤ 32) (h4 : t.kind = wordK t.text)
  | int (h : allD t.text) (h1 : t.text ≠ []) (h2 : intOk t.text = true) (h3 : t.kind = 2)
  | op (h : inB opsL t.text = true) (h1 : t.kind = 4)
theorem nextR_ok {s : List UInt8} {p : Nat} (hp : p < s.length) (he : (nextR s p).2 = 0) (hk : (nextR s p).1.kind ≠ 5) : TokOk (nextR s p).1 := by
  have hlen : ∀ n, p + n ≤ s.length → ((s.drop p).take n).length = n := fun n hn => by rw [List.length_take, List.length_drop]; omega
  unfold nextR at he hk ⊢
  cases h4 : letterB (cAt s p)
  · rw [h4] at he hk
    simp only [cond_false] at he hk ⊢
    cases h6 : digitB (cAt s p)
    · rw [h6] at he hk
      simp only [cond_false] at he hk ⊢
      cases h9 : (decide (cAt s p = 47) && decide ((p : Int) + 1 < s.length)) && decide (cAt s (p + 1) = 47)
      · rw [h9] at he hk
        simp only [cond_false] at he hk ⊢
        cases h0 : decide ((s.drop p).take (opLenR (s.drop p)) = [])
        · refine .op ?_ rfl
          simp only [cond_false]
          unfold opLenR at h0 ⊢
          cases a2 : decide (2 ≤ (s.drop p).length) && inB opsL ((s.drop p).take 2)
          · cases a1 : decide (1 ≤ (s.drop p).length) && inB opsL ((s.drop p).take 1)
            · rw [a2, a1] at h0; simp at h0
            · simp only [Bool.and_eq_true] at a1; exact a1.2
          · simp only [Bool.and_eq_true] at a2; exact a2.2
        · rw [h0] at he; simp at he
      · rw [h9] at hk; simp at hk
    · rw [h6] at he hk
      simp only [cond_true] at he hk ⊢
      cases hb : (!intOk ((s.drop p).take (runN digitB (s.drop p)))) || (decide ((p : Int) + runN digitB (s.drop p) < s.length) && letterB (cAt s (p + runN digitB (s.drop p))))
      · rw [Bool.or_eq_false_iff] at hb
        have hpos := runN_pos (q := digitB) hp h6
        refine .int (digits_allD s p) (fun e => ?_) (by simpa using hb.1) rfl
        have := congrArg List.length e
        simp only [cond_false] at this
        rw [hlen _ (runN_fit digitB hp)] at this
        simp at this; omega
      · rw [hb] at he; simp at he
  · rw [h4] at he hk
    simp only [cond_true] at he hk ⊢
    have hpos := runN_pos (q := isAlnum) hp (by rw [isAlnum, h4]; rfl)
    have hl := hlen _ (runN_fit isAlnum hp)
    obtain ⟨k, hk'⟩ : ∃ k, runN isAlnum (s.drop p) = k + 1 := ⟨runN isAlnum (s.drop p) - 1, by omega⟩
    refine .word s[p] ((s.drop (p + 1)).take k) ?_ (by rw [← cAt_eq hp]; exact h4) (fun x hx => runN_all isAlnum _ x hx) ?_ rfl
    · rw [hk', List.drop_eq_getElem_cons hp]; rfl
    · show ((s.drop p).take (runN isAlnum (s.drop p))).length ≤ 32
      rw [hl]
      cases h5 : decide ((32 : Int) < runN isAlnum (s.drop p))
      · have := of_decide_eq_false h5; omega
      · rw [h5] at he; simp at he
theorem nextF_ok {s : List UInt8} {p : Nat} (ts cs : List Tok) (h : p < s.length) (he : (nextF s p ts cs).2.2.2 = 0) :
    ((nextF s p ts cs).2.1 = ts) ∨ ∃ t, (nextF s p ts cs).2.1 = ts ++ [t] ∧ TokOk t ∧ (nextF s p ts cs).1 = p + t.text.length ∧ 0 < t.text.length := by
  by_cases hb : (decide (cAt s p = 10) || ((decide (cAt s p = 32) || decide (cAt s p = 9)) || decide (cAt s p = 13))) = false
  · have hF := nextF_tok ts cs h hb
    have hlt := nextF_lt h he
    rw [hF] at he hlt ⊢
    cases h8 : decide ((nextR s p).2 = 0)
    · rw [h8] at he
      simp only [Bool.not_false, cond_true] at he
      rw [he] at h8; cases h8
    · rw [h8] at he hlt
      simp only [Bool.not_true, cond_false] at he hlt ⊢
      cases h9 : decide ((nextR s p).1.kind = 5)
      · rw [h9] at hlt
        right
        exact ⟨_, rfl, nextR_ok h (of_decide_eq_true h8) (of_decide_eq_false h9), rfl, by simp only [cond_false] at hlt; omega⟩
      · left; rfl
  · rw [Bool.not_eq_false, Bool.or_eq_true] at hb
    rcases Bool.eq_false_or_eq_true (decide (cAt s p = 10)) with h10 | h10
    · have hst : nextF s p ts cs = (p + 1, nlTs p ts, cs, 0) := by unfold nextF; rw [h10]; rfl
      rw [hst, nlTs_eq]
      cases decide ((0 : Int) < ts.length) && endsT (lastT ts)
      · left; rfl
      · right
        exact ⟨⟨4, [59], p⟩, rfl, .op (by rfl) rfl, rfl, Nat.zero_lt_one⟩
    · rw [h10] at hb
      have hbl : ((decide (cAt s p = 32) || decide (cAt s p = 9)) || decide (cAt s p = 13)) = true := by rcases hb with hb | hb; cases hb; exact hb
      left; unfold nextF; rw [h10, hbl]; rfl
def jl (l : List Tok) : Nat := (l.map fun t => t.text.length + 1).sum
theorem goF_ok (s : List UInt8) : ∀ (f p : Nat) (ts cs : List Tok), p ≤ s.length → (∀ t ∈ ts, TokOk t) → jl ts ≤ 2 * p → (goF s f p ts cs).2.2.2 = 0 → (∀ t ∈ (goF s f p ts cs).2.1, TokOk t) ∧ jl (goF s f p ts cs).2.1 ≤ 2 * s.length := by
  intro f
  induction f with
  | zero => intro p ts cs h0 h1 h2 _; exact ⟨h1, by show jl ts ≤ _; omega⟩
  | succ f ih =>
    intro p ts cs h0 h1 h2 he
    by_cases hp : p < s.length
    · rw [goF_step hp] at he ⊢
      cases h8 : decide ((nextF s p ts cs).2.2.2 = 0)
      · rw [h8, cond_false] at he
        rw [he] at h8; cases h8
      · rw [h8, cond_true] at he
        rw [cond_true]
        have e0 := of_decide_eq_true h8
        have hlt := nextF_lt hp e0
        have hle := nextF_le ts cs hp
        rcases nextF_ok ts cs hp e0 with h | ⟨t, h, hok, hq, hpos⟩
        · rw [h] at he ⊢
          exact ih _ _ _ hle h1 (by omega) he
        · rw [h] at he ⊢
          refine ih _ _ _ hle ?_ ?_ he
          · intro u hu
            rcases List.mem_append.mp hu with hu | hu
            · exact h1 u hu
            · have : u = t := by simpa using hu
              subst this; exact hok
          · have : jl (ts ++ [t]) = jl ts + (t.text.length + 1) := by simp [jl]
            rw [this]; omega
    · rw [goF_end hp] at he ⊢
      exact ⟨h1, by show jl ts ≤ _; omega⟩
/-- What stands behind a token in a joined text. -/
def Rest (r : List UInt8) : Prop := r = [] ∨ ∃ r', r = 32 :: r'
theorem runN_rest {q : Int → Bool} (hq : q 32 = false) : ∀ (x r : List UInt8), (∀ c ∈ x, q c.toNat = true) → Rest r → runN q (x ++ r) = x.length
  | [], r, _, hr => by
    rcases hr with rfl | ⟨r', rfl⟩
    · rfl
    · rw [List.nil_append, runN, if_neg (by rw [show ((32 : UInt8).toNat : Int) = 32 from rfl, hq]; decide)]; rfl
  | c :: x, r, h, hr => by
    rw [List.cons_append, runN, if_pos (h c (List.mem_cons_self ..)), runN_rest hq x r (fun y hy => h y (List.mem_cons_of_mem _ hy)) hr]; rfl
theorem ops_first : opsL.all (fun o => match o with
  | [] => false
  | c :: _ => !letterB c.toNat && (!digitB c.toNat && (!decide ((c.toNat : Int) = 10) && !((decide ((c.toNat : Int) = 32) || decide ((c.toNat : Int) = 9)) || decide ((c.toNat : Int) = 13))))) = true := by decide
theorem ops_slash : opsL.all (fun o => match o with
  | c :: d :: _ => !decide (c = 47)
  | _ => true) = true := by decide
theorem ops_short : opsL.all (fun o => decide (o.length = 1) || decide (o.length = 2)) = true := by decide
theorem ops_no_bl2 : opsL.all (fun o => !o.contains 32) = true := by decide
theorem inB_no_bl' {l : List UInt8} (h : (32 : UInt8) ∈ l) : inB opsL l = false := by
  rw [inB, List.any_eq_false]
  intro o ho
  have := List.all_eq_true.mp ops_no_bl2 o ho
  simp only [decide_eq_true_eq]
  rintro rfl
  simp [h] at this
theorem opLenR_rest {o r : List UInt8} (ho : inB opsL o = true) (hr : Rest r) : opLenR (o ++ r) = o.length := by
  have hm : o ∈ opsL := by
    rw [inB, List.any_eq_true] at ho
    obtain ⟨k, hk, e⟩ := ho
    have e := of_decide_eq_true e
    exact e ▸ hk
  have hs := List.all_eq_true.mp ops_short o hm
  simp only [Bool.or_eq_true, decide_eq_true_eq] at hs
  unfold opLenR
  rcases hs with hs | hs
  · obtain ⟨c, rfl⟩ := List.length_eq_one_iff.mp hs
    have e2 : (decide (2 ≤ ([c] ++ r).length) && inB opsL (([c] ++ r).take 2)) = false := by
      rcases hr with rfl | ⟨r', rfl⟩
      · rfl
      · rw [show ([c] ++ 32 :: r').take 2 = [c, 32] from rfl, inB_no_bl' (by simp), Bool.and_false]
    rw [e2, show ([c] ++ r).take 1 = [c] from rfl, ho, decide_eq_true (by simp : 1 ≤ ([c] ++ r).length)]
    rfl
  · have e2 : (o ++ r).take 2 = o := by rw [List.take_append_of_le_length (by omega), List.take_of_length_le (by omega)]
    rw [e2, ho, decide_eq_true (by rw [List.length_append]; omega : 2 ≤ (o ++ r).length), hs]
    rfl
theorem cAt_drop {u x : List UInt8} {p : Nat} (h : u.drop p = x) (i : Nat) : cAt u (p + i) = cAt x i := by
  subst h
  simp [cAt, List.getD_eq_getElem?_getD, List.getElem?_drop]
theorem tokOk_pos {t : Tok} (ht : TokOk t) : 0 < t.text.length := by
  cases ht with
  | word c l h => rw [h]; simp
  | int h h1 => exact List.length_pos_iff.mpr h1
  | op h =>
    cases hx : t.text with
    | nil => rw [hx] at h; exact absurd h (by decide)
    | cons => simp
/-- A token's text scans to the token. -/
theorem nextF_again {t : Tok} (ht : TokOk t) {u r : List UInt8} {p : Nat} (hu : u.drop p = t.text ++ r) (hr : Rest r) (ts cs : List Tok) : p < u.length ∧ nextF u p ts cs = (p + t.text.length, ts ++ [⟨t.kind, t.text, p⟩], cs, 0) := by
  have hpos : 0 < t.text.length := by
    cases ht with
    | word c l h => rw [h]; simp
    | int h h1 => exact List.length_pos_iff.mpr h1
    | op h =>
      cases hx : t.text with
      | nil => rw [hx] at h; exact absurd h (by decide)
      | cons => simp
  have hlu : u.length - p = t.text.length + r.length := by have := congrArg List.length hu; simpa using this
  have hp : p < u.length := by omega
  refine ⟨hp, ?_⟩
  have htake : (u.drop p).take t.text.length = t.text := by rw [hu]; simp
  have hc0 : cAt u p = cAt t.text 0 := by
    have := cAt_drop hu 0
    rw [Nat.add_zero] at this
    rw [this, cAt_app r hpos]
  have hcn : p + t.text.length < u.length → cAt u (p + t.text.length) = 32 := by
    intro hlt
    rw [cAt_drop hu]
    rcases hr with rfl | ⟨r', rfl⟩
    · simp at hlu; omega
    · have := cAt_app2 t.text (32 :: r') 0
      rw [Nat.add_zero] at this
      rw [this]; rfl
  cases ht with
  | word c l h h1 h2 h3 h4 =>
    have hc : cAt u p = (c.toNat : Int) := by rw [hc0, h]; rfl
    have hle : 65 ≤ c.toNat ∧ c.toNat ≤ 122 := by
      simp only [letterB, Bool.or_eq_true, Bool.and_eq_true, decide_eq_true_eq] at h1; omega
    have hrun : runN isAlnum (u.drop p) = t.text.length := by rw [hu]; exact runN_rest (by decide) _ _ h2 hr
    have n1 : decide (cAt u p = 10) = false := by rw [hc]; rw [decide_eq_false_iff_not]; omega
    have n2 : ((decide (cAt u p = 32) || decide (cAt u p = 9)) || decide (cAt u p = 13)) = false := by rw [hc, decide_eq_false (by omega), decide_eq_false (by omega), decide_eq_false (by omega)]; rfl
    have n3 : preB [47, 47] (u.drop p) = false := by rw [pre_slashes hp, hc, decide_eq_false (by omega)]; rfl
    unfold nextF
    rw [n1, n2, n3, hc, h1, hrun, htake, decide_eq_false (by omega : ¬ (32 : Int) < (t.text.length : Nat)), ← h4]
    rfl
  | int h h1 h2 h3 =>
    obtain ⟨c, l, hcl⟩ : ∃ c l, t.text = c :: l := by
      cases hx : t.text with
      | nil => exact absurd hx h1
      | cons c l => exact ⟨c, l, rfl⟩
    have hcd := h c (by rw [hcl]; simp)
    have hc : cAt u p = (c.toNat : Int) := by rw [hc0, hcl]; rfl
    have hrun : runN digitB (u.drop p) = t.text.length := by
      rw [hu]
      refine runN_rest (by decide) _ _ (fun x hx => ?_) hr
      have := h x hx
      rw [digitB, decide_eq_true (by omega), decide_eq_true (by omega)]; rfl
    have n1 : decide (cAt u p = 10) = false := by rw [hc]; rw [decide_eq_false_iff_not]; omega
    have n2 : ((decide (cAt u p = 32) || decide (cAt u p = 9)) || decide (cAt u p = 13)) = false := by rw [hc, decide_eq_false (by omega), decide_eq_false (by omega), decide_eq_false (by omega)]; rfl
    have n3 : preB [47, 47] (u.drop p) = false := by
      rw [pre_slashes hp, hc]
      by_cases e : c.toNat = 47
      · omega
      · rw [decide_eq_false (by omega)]; rfl
    have n4 : letterB (cAt u p) = false := by
      rw [hc, letterB, decide_eq_false (by omega : ¬ (97 : Int) ≤ c.toNat), decide_eq_false (by omega : ¬ (65 : Int) ≤ c.toNat), decide_eq_false (by omega : ¬ (c.toNat : Int) = 95)]; rfl
    have n6 : digitB (cAt u p) = true := by rw [hc, digitB, decide_eq_true (by omega), decide_eq_true (by omega)]; rfl
    have h2' := h2
    rw [intOk] at h2'
    simp only [Bool.and_eq_true, decide_eq_true_eq, Bool.not_eq_true'] at h2'
    have hbad : badD u p t.text.length = false := by
      unfold badD
      rw [hc0]
      have e1 : (decide (cAt t.text 0 = 48) && decide ((1 : Int) < (t.text.length : Nat))) = false := by rw [Bool.and_comm]; exact h2'.1.2
      rw [e1, Bool.false_or]
      by_cases hlt : p + t.text.length < u.length
      · rw [hcn hlt, show letterB 32 = false by decide, Bool.and_false]
      · rw [decide_eq_false (by omega : ¬ (p : Int) + (t.text.length : Nat) < (u.length : Nat))]; rfl
    have hv : decide (valN 0 t.text < 9223372036854775808) = true := decide_eq_true (by omega)
    unfold nextF
    rw [n1, n2, n3, n4, n6, hrun, htake, hbad, hv, h3]
    rfl
  | op h h1 =>
    have hm : t.text ∈ opsL := by
      rw [inB, List.any_eq_true] at h
      obtain ⟨k, hk, e⟩ := h
      have e := of_decide_eq_true e
      exact e ▸ hk
    have hf := List.all_eq_true.mp ops_first _ hm
    have hsl := List.all_eq_true.mp ops_slash _ hm
    obtain ⟨c, l, hcl⟩ : ∃ c l, t.text = c :: l := by
      cases hx : t.text with
      | nil => rw [hx] at hpos; cases hpos
      | cons c l => exact ⟨c, l, rfl⟩
    rw [hcl] at hf hsl
    simp only [Bool.and_eq_true, Bool.not_eq_true'] at hf
    have hc : cAt u p = (c.toNat : Int) := by rw [hc0, hcl]; rfl
    have hol : opLen (u.drop p) = t.text.length := by rw [opLen_R, hu]; exact opLenR_rest h hr
    have n3 : preB [47, 47] (u.drop p) = false := by
      rw [pre_slashes hp, hc]
      by_cases e : (c.toNat : Int) = 47
      · have ec : c = 47 := UInt8.toNat_inj.mp (by rw [show (47 : UInt8).toNat = 47 from rfl]; omega)
        cases l with
        | cons d l' => rw [ec] at hsl; simp at hsl
        | nil =>
          have h1l : t.text.length = 1 := by rw [hcl]; rfl
          by_cases hlt : p + 1 < u.length
          · rw [h1l] at hcn
            rw [hcn hlt]; simp
          · rw [decide_eq_false (by omega : ¬ (p : Int) + 1 < (u.length : Nat))]; simp
      · rw [decide_eq_false e]; rfl
    unfold nextF
    rw [hc, hf.2.2.1, hf.2.2.2, n3, hf.1, hf.2.1, hol, htake, h1]
    have : Nat.beq t.text.length 0 = false := by rw [Bool.eq_false_iff]; intro e; have := Nat.eq_of_beq_eq_true e; omega
    rw [this]
    rfl
def kt (t : Tok) : Int × List UInt8 := (t.kind, t.text)
def joinTail : List Tok → List UInt8
  | [] => []
  | t :: l => 32 :: (t.text ++ joinTail l)
theorem rest_tail (l : List Tok) : Rest (joinTail l) := by
  cases l with
  | nil => exact .inl rfl
  | cons t l => exact .inr ⟨_, rfl⟩
theorem joinF_tail (t : Tok) (l : List Tok) : joinF (t :: l) = t.text ++ joinTail l := by
  have key : ∀ (l : List Tok) (acc : List UInt8), l.foldl (fun acc u => acc ++ 32 :: Tok.text u) acc = acc ++ joinTail l := by
    intro l
    induction l with
    | nil => intro acc; simp [joinTail]
    | cons u l ih => intro acc; rw [List.foldl_cons, ih, joinTail]; simp
  exact key l t.text
theorem joinTail_len (l : List Tok) : (joinTail l).length = jl l := by
  induction l with
  | nil => rfl
  | cons t l ih => rw [joinTail, List.length_cons, List.length_append, ih]; simp [jl]; omega
theorem drop_more {u x y : List UInt8} {p : Nat} (h : u.drop p = x ++ y) : u.drop (p + x.length) = y := by
  rw [← List.drop_drop, h]; simp
theorem goF_tail {u : List UInt8} : ∀ (l : List Tok) (p F : Nat) (ts cs : List Tok), (∀ t ∈ l, TokOk t) → u.drop p = joinTail l → u.length - p ≤ F → ∃ l', (goF u F p ts cs).2.1 = ts ++ l' ∧ (goF u F p ts cs).2.2.2 = 0 ∧ l'.map kt = l.map kt
  | [], p, F, ts, cs, _, hu, hF => by
    have : u.length ≤ p := by have := congrArg List.length hu; simp [joinTail] at this; omega
    rw [goF_end (by omega)]
    exact ⟨[], by simp, rfl, rfl⟩
  | t :: l, p, F, ts, cs, hok, hu, hF => by
    have hlu : u.length - p = 1 + (t.text ++ joinTail l).length := by have := congrArg List.length hu; simp only [joinTail, List.length_drop, List.length_cons] at this; omega
    have hc : cAt u p = 32 := by have := cAt_drop hu 0; rw [Nat.add_zero] at this; rw [this]; rfl
    have hst : nextF u p ts cs = (p + 1, ts, cs, 0) := by unfold nextF; rw [hc]; rfl
    have hu1 : u.drop (p + 1) = t.text ++ joinTail l := drop_more (x := [32]) hu
    obtain ⟨hp1, hn⟩ := nextF_again (hok t (List.mem_cons_self ..)) hu1 (rest_tail l) ts cs
    have hpos := tokOk_pos (hok t (List.mem_cons_self ..))
    obtain ⟨F1, rfl⟩ : ∃ F1, F = F1 + 1 := ⟨F - 1, by omega⟩
    obtain ⟨F2, rfl⟩ : ∃ F2, F1 = F2 + 1 := ⟨F1 - 1, by omega⟩
    rw [goF_step (by omega), hst]
    simp only [decide_true, cond_true]
    rw [goF_step hp1, hn]
    simp only [decide_true, cond_true]
    obtain ⟨l', e1, e2, e3⟩ := goF_tail l (p + 1 + t.text.length) F2 (ts ++ [⟨t.kind, t.text, ((p + 1 : Nat) : Int)⟩]) cs (fun x hx => hok x (List.mem_cons_of_mem _ hx)) (drop_more hu1) (by omega)
    exact ⟨⟨t.kind, t.text, ((p + 1 : Nat) : Int)⟩ :: l', by rw [e1]; simp, e2, by rw [List.map_cons, List.map_cons, e3]; rfl⟩
theorem joined_scan {l : List Tok} (hok : ∀ t ∈ l, TokOk t) (hl : jl l ≤ 20000) : (scanF (joinF l)).2.2 = 0 ∧ ((scanF (joinF l)).1).map kt = l.map kt := by
  cases l with
  | nil => exact ⟨rfl, rfl⟩
  | cons t l =>
    have e := joinF_tail t l
    have hlen : (joinF (t :: l)).length ≤ 20000 := by
      rw [e, List.length_append, joinTail_len]
      have : jl (t :: l) = t.text.length + 1 + jl l := by simp [jl]
      omega
    have hg := scanF_good hlen
    have hu : (joinF (t :: l)).drop 0 = t.text ++ joinTail l := by rw [List.drop_zero, e]
    obtain ⟨hp1, hn⟩ := nextF_again (hok t (List.mem_cons_self ..)) hu (rest_tail l) [] []
    have hpos := tokOk_pos (hok t (List.mem_cons_self ..))
    obtain ⟨F1, hF⟩ : ∃ F1, (joinF (t :: l)).length = F1 + 1 := ⟨(joinF (t :: l)).length - 1, by omega⟩
    have hstep : goF (joinF (t :: l)) (joinF (t :: l)).length 0 [] [] = goF (joinF (t :: l)) F1 (0 + t.text.length) ([] ++ [⟨t.kind, t.text, ((0 : Nat) : Int)⟩]) [] := by
      rw [hF, goF_step hp1, hn]
      rfl
    obtain ⟨l', e1, e2, e3⟩ := goF_tail (u := joinF (t :: l)) l (0 + t.text.length) F1 ([] ++ [⟨t.kind, t.text, ((0 : Nat) : Int)⟩]) [] (fun x hx => hok x (List.mem_cons_of_mem _ hx)) (drop_more hu) (by omega)
    have e0 : (scanF (joinF (t :: l))).2.2 = 0 := hg.1.mpr (by rw [hstep]; exact e2)
    refine ⟨e0, ?_⟩
    rw [hg.2 e0, hstep, e1]
    rw [List.nil_append, List.singleton_append, List.map_cons, List.map_cons, e3]
    rfl
theorem scan_join {s : List UInt8} (h : s.length ≤ 300) (he : (scanF s).2.2 = 0) : jl (scanF s).1 ≤ 600 ∧ (scanF (joinF (scanF s).1)).2.2 = 0 ∧ ((scanF (joinF (scanF s).1)).1).map kt = ((scanF s).1).map kt := by
  have hg := scanF_good (s := s) (by omega)
  obtain ⟨h1, h2⟩ := goF_ok s s.length 0 [] [] (Nat.zero_le _) (fun t ht => by cases ht) (Nat.zero_le _) (hg.1.mp he)
  rw [hg.2 he]
  exact ⟨by omega, joined_scan h1 (by omega)⟩
end Go.Rk
