/- The plain law of a concatenation: scanning goes on behind a line feed as at a text's start. No program in sight. Conditions: none. -/
import Derived.Test.YtpbnkinfkkokfaaDoorScanN
namespace Go.Rk
open Go
theorem runN_app {q : Int → Bool} : ∀ {x : List UInt8} (y : List UInt8), runN q x < x.length → runN q (x ++ y) = runN q x
  | [], _, h => by cases h
  | c :: x, y, h => by
    rw [List.cons_append, runN, runN]
    rw [runN] at h
    split
    · rename_i hq
      rw [if_pos hq] at h
      rw [runN_app y (by simp at h; omega)]
    · rfl
theorem runN_nl {q : Int → Bool} (hq : q 10 = false) : ∀ (x : List UInt8), runN q (x ++ [10]) ≤ x.length
  | [] => by rw [List.nil_append, runN, if_neg (by rw [show ((10 : UInt8).toNat : Int) = 10 from rfl, hq]; decide)]; exact Nat.le_refl _
  | c :: x => by
    rw [List.cons_append, runN]
    split
    · have := runN_nl hq x; simp; omega
    · exact Nat.zero_le _
theorem cAt_app {x : List UInt8} (y : List UInt8) {p : Nat} (h : p < x.length) : cAt (x ++ y) p = cAt x p := by
  rw [cAt_eq h, cAt_eq (by rw [List.length_append]; omega)]
  rw [List.getElem_append_left h]
theorem cAt_app2 (x y : List UInt8) (q : Nat) : cAt (x ++ y) (x.length + q) = cAt y q := by
  simp [cAt, List.getD_eq_getElem?_getD, List.getElem?_append_right]
theorem drop_app2 (x y : List UInt8) (q : Nat) : (x ++ y).drop (x.length + q) = y.drop q := by
  rw [List.drop_append]; simp
theorem ops_no_nl : opsL.all (fun o => !o.contains 10) = true := by decide
theorem inB_no_nl {l : List UInt8} (h : (10 : UInt8) ∈ l) : inB opsL l = false := by
  rw [inB, List.any_eq_false]
  intro o ho
  have := List.all_eq_true.mp ops_no_nl o ho
  simp only [decide_eq_true_eq]
  rintro rfl
  simp [h] at this
theorem goF_end {s : List UInt8} {p : Nat} (h : ¬ p < s.length) (f : Nat) (ts cs : List Tok) : goF s f p ts cs = (p, ts, cs, 0) := by
  cases f with
  | zero => rfl
  | succ f => rw [goF, decide_eq_false h]; rfl
theorem goF_step {s : List UInt8} {p : Nat} (h : p < s.length) (f : Nat) (ts cs : List Tok) : goF s (f + 1) p ts cs = bif decide ((nextF s p ts cs).2.2.2 = 0) then goF s f (nextF s p ts cs).1 (nextF s p ts cs).2.1 (nextF s p ts cs).2.2.1 else nextF s p ts cs := by
  rw [goF, decide_eq_true h]; rfl
/-- A text that ends in a line feed. -/
structure Nl (A : List UInt8) (a : List UInt8) : Prop where
  e : A = a ++ [10]
theorem Nl.len {A a : List UInt8} (h : Nl A a) : A.length = a.length + 1 := by rw [h.e]; simp
theorem Nl.drop {A a : List UInt8} (h : Nl A a) {p : Nat} (hp : p ≤ a.length) : A.drop p = a.drop p ++ [10] := by rw [h.e, List.drop_append_of_le_length hp]
theorem Nl.run {A a : List UInt8} (h : Nl A a) {p : Nat} (hp : p ≤ a.length) {q : Int → Bool} (hq : q 10 = false) : p + runN q (A.drop p) ≤ a.length := by
  have := runN_nl hq (a.drop p)
  rw [h.drop hp]; rw [List.length_drop] at this; omega
theorem Nl.last {A a : List UInt8} (h : Nl A a) : cAt A a.length = 10 := by
  rw [h.e, show a.length = a.length + 0 from rfl, cAt_app2]; rfl
theorem Nl.op {A a : List UInt8} (h : Nl A a) {p : Nat} (hp : p < a.length) : p + opLenR (A.drop p) ≤ a.length := by
  unfold opLenR
  cases h2 : decide (2 ≤ (A.drop p).length) && inB opsL ((A.drop p).take 2)
  · cases decide (1 ≤ (A.drop p).length) && inB opsL ((A.drop p).take 1)
    · show p + 0 ≤ _; omega
    · show p + 1 ≤ _; omega
  · show p + 2 ≤ _
    by_cases hq : p + 2 ≤ a.length
    · exact hq
    · exfalso
      have hd := h.drop (p := p) (by omega)
      have : (a.drop p).length = 1 := by rw [List.length_drop]; omega
      obtain ⟨c, hc⟩ := List.length_eq_one_iff.mp this
      rw [hd, hc] at h2
      simp only [Bool.and_eq_true] at h2
      rw [inB_no_nl (by simp)] at h2
      cases h2.2
theorem isNotLf10 : isNotLf 10 = false := by decide
theorem isAlnum10 : isAlnum 10 = false := by decide
theorem digit10 : digitB 10 = false := by decide
theorem take_app (x y : List UInt8) {p n : Nat} (h : p + n ≤ x.length) : ((x ++ y).drop p).take n = (x.drop p).take n := by
  rw [List.drop_append_of_le_length (by omega), List.take_append_of_le_length (by rw [List.length_drop]; omega)]
/-- Behind the line feed nothing is looked at. -/
theorem nextF_front {A a b : List UInt8} (h : Nl A a) {p : Nat} (hp : p < A.length) (ts cs : List Tok) : nextF (A ++ b) p ts cs = nextF A p ts cs := by
  have hl := h.len
  have c0 := cAt_app b hp
  by_cases hlast : p = a.length
  · subst hlast
    have hc := h.last
    unfold nextF
    rw [c0, hc]; rfl
  · have hpa : p < a.length := by omega
    have c1 := cAt_app b (show p + 1 < A.length by omega)
    have r1 := h.run (p := p) (by omega) isNotLf10
    have r2 := h.run (p := p) (by omega) isAlnum10
    have r3 := h.run (p := p) (by omega) digit10
    have hd : (A ++ b).drop p = A.drop p ++ b := List.drop_append_of_le_length (by omega)
    have hdl : (A.drop p).length = A.length - p := List.length_drop
    have e1 : runN isNotLf ((A ++ b).drop p) = runN isNotLf (A.drop p) := by rw [hd]; exact runN_app b (by omega)
    have e2 : runN isAlnum ((A ++ b).drop p) = runN isAlnum (A.drop p) := by rw [hd]; exact runN_app b (by omega)
    have e3 : runN digitB ((A ++ b).drop p) = runN digitB (A.drop p) := by rw [hd]; exact runN_app b (by omega)
    have e4 : opLen ((A ++ b).drop p) = opLen (A.drop p) := by
      rw [opLen_R, opLen_R]
      unfold opLenR
      have t2 := take_app A b (p := p) (n := 2) (by omega)
      have t1 := take_app A b (p := p) (n := 1) (by omega)
      have hl2 : ((A ++ b).drop p).length = A.length + b.length - p := by rw [List.length_drop, List.length_append]
      rw [t2, t1, decide_eq_true (by omega : 2 ≤ ((A ++ b).drop p).length), decide_eq_true (by omega : 1 ≤ ((A ++ b).drop p).length), decide_eq_true (by omega : 2 ≤ (A.drop p).length), decide_eq_true (by omega : 1 ≤ (A.drop p).length)]
    have e5 : preB [47, 47] ((A ++ b).drop p) = preB [47, 47] (A.drop p) := by
      rw [pre_slashes (by rw [List.length_append]; omega), pre_slashes hp, c0, c1, decide_eq_true (by rw [List.length_append]; omega : (p : Int) + 1 < ((A ++ b).length : Nat)), decide_eq_true (by omega : (p : Int) + 1 < (A.length : Nat))]
    have e6 : badD (A ++ b) p (runN digitB (A.drop p)) = badD A p (runN digitB (A.drop p)) := by
      unfold badD
      rw [c0, cAt_app b (show p + runN digitB (A.drop p) < A.length by omega), decide_eq_true (by rw [List.length_append]; omega : (p : Int) + runN digitB (A.drop p) < ((A ++ b).length : Nat)), decide_eq_true (by omega : (p : Int) + runN digitB (A.drop p) < (A.length : Nat))]
    have o := h.op hpa
    rw [← opLen_R] at o
    unfold nextF
    rw [c0, e1, e2, e3, e4, e5, e6, take_app A b (p := p) (by omega), take_app A b (p := p) (n := runN isAlnum (A.drop p)) (by omega), take_app A b (p := p) (n := runN digitB (A.drop p)) (by omega), take_app A b (p := p) (n := opLen (A.drop p)) (by omega)]
theorem nextF_stay {A a : List UInt8} (h : Nl A a) {p : Nat} (hp : p < a.length) (ts cs : List Tok) : (nextF A p ts cs).1 ≤ a.length := by
  have r1 := h.run (p := p) (by omega) isNotLf10
  have r2 := h.run (p := p) (by omega) isAlnum10
  have r3 := h.run (p := p) (by omega) digit10
  have o := h.op hp
  unfold nextF
  rw [opLen_R]
  cases decide (cAt A p = 10)
  · cases ((decide (cAt A p = 32) || decide (cAt A p = 9)) || decide (cAt A p = 13))
    · cases preB [47, 47] (A.drop p)
      · cases letterB (cAt A p)
        · cases digitB (cAt A p)
          · cases Nat.beq (opLenR (A.drop p)) 0
            · simp only [cond_true, cond_false]; omega
            · simp only [cond_true, cond_false]; omega
          · cases badD A p (runN digitB (A.drop p))
            · cases decide (valN 0 ((A.drop p).take (runN digitB (A.drop p))) < 9223372036854775808)
              · simp only [cond_true, cond_false]; omega
              · simp only [cond_true, cond_false]; omega
            · simp only [cond_true, cond_false]; omega
        · cases decide ((32 : Int) < runN isAlnum (A.drop p))
          · simp only [cond_true, cond_false]; omega
          · simp only [cond_true, cond_false]; omega
      · simp only [cond_true, cond_false]; omega
    · simp only [cond_true, cond_false]; omega
  · simp only [cond_true, cond_false]; omega
/-- The last token ends no line. -/
def Quiet (ts : List Tok) : Prop := (decide ((0 : Int) < ts.length) && endsT (lastT ts)) = false
theorem quiet_nl (p : Nat) (ts : List Tok) : Quiet (nlTs p ts) := by
  rw [nlTs_eq]
  cases h : decide ((0 : Int) < ts.length) && endsT (lastT ts)
  · exact h
  · have hl : lastT (ts ++ [⟨4, [59], p⟩]) = ⟨4, [59], p⟩ := by simp [lastT]
    unfold Quiet
    rw [cond_true, hl]
    have : endsT ⟨4, [59], (p : Int)⟩ = false := rfl
    rw [this, Bool.and_false]
/-- The first text's part of the scanning. -/
theorem goF_front {A a b : List UInt8} (h : Nl A a) : ∀ (f p : Nat) (ts cs : List Tok), p ≤ a.length → A.length - p ≤ f → (goF A f p ts cs).2.2.2 = 0 → Quiet (goF A f p ts cs).2.1 ∧
    ∀ F, (A ++ b).length - p ≤ F → ∃ F' cs', b.length ≤ F' ∧ goF (A ++ b) F p ts cs = goF (A ++ b) F' A.length (goF A f p ts cs).2.1 cs' := by
  have hl := h.len
  have hab : (A ++ b).length = A.length + b.length := List.length_append
  intro f
  induction f with
  | zero => intro p ts cs h1 h2; omega
  | succ f ih =>
    intro p ts cs h1 h2 he
    have hp : p < A.length := by omega
    rw [goF_step hp] at he ⊢
    cases h0 : decide ((nextF A p ts cs).2.2.2 = 0)
    · rw [h0, cond_false] at he
      rw [he] at h0; cases h0
    · rw [h0, cond_true] at he
      rw [cond_true]
      have e0 := of_decide_eq_true h0
      have hlt := nextF_lt hp e0
      by_cases hlast : p = a.length
      · have hst : nextF A p ts cs = (p + 1, nlTs p ts, cs, 0) := by
          subst hlast; unfold nextF; rw [h.last]; rfl
        have hfix : ∀ (f : Nat) (ts cs : List Tok), goF A f (p + 1) ts cs = (p + 1, ts, cs, 0) := fun f ts cs => goF_end (by omega) f ts cs
        rw [hst]
        simp only
        rw [hfix]
        refine ⟨quiet_nl p ts, fun F hF => ?_⟩
        obtain ⟨F', rfl⟩ : ∃ F', F = F' + 1 := ⟨F - 1, by omega⟩
        refine ⟨F', cs, by omega, ?_⟩
        rw [goF_step (by omega : p < (A ++ b).length), nextF_front h hp, hst]
        simp only [decide_true, cond_true]
        rw [show p + 1 = A.length by omega]
      · have hstay := nextF_stay h (show p < a.length by omega) ts cs
        obtain ⟨q1, q2⟩ := ih _ _ _ hstay (by omega) he
        refine ⟨q1, fun F hF => ?_⟩
        obtain ⟨F', rfl⟩ : ∃ F', F = F' + 1 := ⟨F - 1, by omega⟩
        obtain ⟨F'', cs', q3, q4⟩ := q2 F' (by omega)
        refine ⟨F'', cs', q3, ?_⟩
        rw [goF_step (by omega : p < (A ++ b).length), nextF_front h hp, h0, cond_true]
        exact q4
def sh (N : Nat) (t : Tok) : Tok := ⟨t.kind, t.text, t.pos + N⟩
theorem nlTs_shift {N q : Nat} {l m : List Tok} (hl : Quiet l) : nlTs (N + q) (l ++ m.map (sh N)) = l ++ (nlTs q m).map (sh N) := by
  rw [nlTs_eq, nlTs_eq]
  rcases List.eq_nil_or_concat m with rfl | ⟨m', x, e⟩
  · rw [List.map_nil, List.append_nil, hl]
    show l = l ++ List.map (sh N) []
    simp
  · have e : m = m' ++ [x] := by simpa using e
    subst e
    have l1 : lastT (l ++ (m' ++ [x]).map (sh N)) = sh N x := by simp [lastT]
    have l2 : lastT (m' ++ [x]) = x := by simp [lastT]
    have l3 : endsT (sh N x) = endsT x := rfl
    rw [l1, l2, l3, decide_eq_true (by simp; omega : (0 : Int) < ((l ++ (m' ++ [x]).map (sh N)).length : Nat)), decide_eq_true (by simp : (0 : Int) < ((m' ++ [x]).length : Nat)), Bool.true_and]
    cases endsT x
    · rfl
    · simp only [cond_true, List.map_append, List.append_assoc, List.map_cons, List.map_nil]
      have : (⟨4, [59], ((N + q : Nat) : Int)⟩ : Tok) = sh N ⟨4, [59], q⟩ := by simp [sh]; omega
      rw [this]
theorem nextF_back {A b : List UInt8} {l : List Tok} (hl : Quiet l) {q : Nat} (hq : q < b.length) (m cs cs' : List Tok) :
    (nextF (A ++ b) (A.length + q) (l ++ m.map (sh A.length)) cs').1 = A.length + (nextF b q m cs).1 ∧ (nextF (A ++ b) (A.length + q) (l ++ m.map (sh A.length)) cs').2.1 = l ++ ((nextF b q m cs).2.1).map (sh A.length) ∧
    (nextF (A ++ b) (A.length + q) (l ++ m.map (sh A.length)) cs').2.2.2 = (nextF b q m cs).2.2.2 := by
  have hd := drop_app2 A b q
  have hc := cAt_app2 A b q
  have hb : badD (A ++ b) (A.length + q) (runN digitB (b.drop q)) = badD b q (runN digitB (b.drop q)) := by
    unfold badD
    rw [hc, Nat.add_assoc, cAt_app2]
    congr 2
    rw [List.length_append, Bool.eq_iff_iff]
    simp only [decide_eq_true_eq]
    omega
  have hs : ∀ (k : Int) (x : List UInt8), l ++ m.map (sh A.length) ++ [(⟨k, x, ((A.length + q : Nat) : Int)⟩ : Tok)] = l ++ (m ++ [(⟨k, x, (q : Int)⟩ : Tok)]).map (sh A.length) := by
    intro k x
    rw [List.map_append, List.append_assoc]
    have : (⟨k, x, ((A.length + q : Nat) : Int)⟩ : Tok) = sh A.length ⟨k, x, (q : Int)⟩ := by simp [sh]; omega
    rw [this]; rfl
  unfold nextF
  rw [hd, hc, hb]
  cases decide (cAt b q = 10)
  · cases ((decide (cAt b q = 32) || decide (cAt b q = 9)) || decide (cAt b q = 13))
    · cases preB [47, 47] (b.drop q)
      · cases letterB (cAt b q)
        · cases digitB (cAt b q)
          · cases Nat.beq (opLen (b.drop q)) 0
            · exact ⟨Nat.add_assoc _ _ _, hs _ _, rfl⟩
            · exact ⟨rfl, rfl, rfl⟩
          · cases badD b q (runN digitB (b.drop q))
            · cases decide (valN 0 ((b.drop q).take (runN digitB (b.drop q))) < 9223372036854775808)
              · exact ⟨rfl, rfl, rfl⟩
              · exact ⟨Nat.add_assoc _ _ _, hs _ _, rfl⟩
            · exact ⟨rfl, rfl, rfl⟩
        · cases decide ((32 : Int) < runN isAlnum (b.drop q))
          · exact ⟨Nat.add_assoc _ _ _, hs _ _, rfl⟩
          · exact ⟨rfl, rfl, rfl⟩
      · exact ⟨Nat.add_assoc _ _ _, rfl, rfl⟩
    · exact ⟨Nat.add_assoc _ _ _, rfl, rfl⟩
  · exact ⟨Nat.add_assoc _ _ _, nlTs_shift hl, rfl⟩
theorem goF_back {A b : List UInt8} {l : List Tok} (hl : Quiet l) : ∀ (f q : Nat) (m cs cs' : List Tok), q ≤ b.length → b.length - q ≤ f → (goF b f q m cs).2.2.2 = 0 → ∀ F, b.length - q ≤ F →
    (goF (A ++ b) F (A.length + q) (l ++ m.map (sh A.length)) cs').2.2.2 = 0 ∧ (goF (A ++ b) F (A.length + q) (l ++ m.map (sh A.length)) cs').2.1 = l ++ ((goF b f q m cs).2.1).map (sh A.length) := by
  have hab : (A ++ b).length = A.length + b.length := List.length_append
  intro f
  induction f with
  | zero =>
    intro q m cs cs' h1 h2 he F hF
    rw [goF_end (by omega : ¬ A.length + q < (A ++ b).length)]
    exact ⟨rfl, rfl⟩
  | succ f ih =>
    intro q m cs cs' h1 h2 he F hF
    by_cases hq : q < b.length
    · obtain ⟨F', rfl⟩ : ∃ F', F = F' + 1 := ⟨F - 1, by omega⟩
      obtain ⟨n1, n2, n3⟩ := nextF_back (A := A) hl hq m cs cs'
      rw [goF_step hq] at he ⊢
      rw [goF_step (by omega : A.length + q < (A ++ b).length), n3]
      cases h0 : decide ((nextF b q m cs).2.2.2 = 0)
      · rw [h0, cond_false] at he
        rw [he] at h0; cases h0
      · rw [h0, cond_true] at he
        rw [cond_true, cond_true, n1, n2]
        have hlt := nextF_lt hq (of_decide_eq_true h0)
        have hle := nextF_le m cs hq
        exact ih _ _ _ _ hle (by omega) he F' (by omega)
    · have hq : q = b.length := by omega
      rw [goF_end (by omega : ¬ q < b.length), goF_end (by omega : ¬ A.length + q < (A ++ b).length)]
      exact ⟨rfl, rfl⟩
theorem scanF_good {s : List UInt8} (h : s.length ≤ 20000) : ((scanF s).2.2 = 0 ↔ (goF s s.length 0 [] []).2.2.2 = 0) ∧ ((scanF s).2.2 = 0 → (scanF s).1 = (goF s s.length 0 [] []).2.1) := by
  rw [scanF, allF, decide_eq_false (by omega : ¬ (20000 : Int) < s.length), cond_false]
  cases h0 : decide ((goF s s.length 0 [] []).2.2.2 = 0)
  · have := of_decide_eq_false h0
    exact ⟨Iff.rfl, fun e => absurd e this⟩
  · have := of_decide_eq_true h0
    exact ⟨⟨fun _ => this, fun _ => rfl⟩, fun _ => rfl⟩
theorem scan_cat {a b : List UInt8} (h : a.length + b.length ≤ 19999) (h1 : (scanF (a ++ [10])).2.2 = 0) (h2 : (scanF b).2.2 = 0) :
    (scanF ((a ++ [10]) ++ b)).2.2 = 0 ∧ (scanF ((a ++ [10]) ++ b)).1 = (scanF (a ++ [10])).1 ++ ((scanF b).1).map (sh (a ++ [10]).length) := by
  have hA : Nl (a ++ [10]) a := ⟨rfl⟩
  have lA := hA.len
  have gA := scanF_good (s := a ++ [10]) (by omega)
  have gb := scanF_good (s := b) (by omega)
  have lu : ((a ++ [10]) ++ b).length = (a ++ [10]).length + b.length := List.length_append
  have gu := scanF_good (s := (a ++ [10]) ++ b) (by omega)
  have eA := gA.1.mp h1
  have eb := gb.1.mp h2
  obtain ⟨q1, q2⟩ := goF_front (b := b) hA (a ++ [10]).length 0 [] [] (Nat.zero_le _) (Nat.sub_le _ _) eA
  obtain ⟨F', cs', q3, q4⟩ := q2 ((a ++ [10]) ++ b).length (Nat.sub_le _ _)
  have k := goF_back (A := a ++ [10]) q1 b.length 0 [] [] cs' (Nat.zero_le _) (Nat.sub_le _ _) eb F' (by omega)
  rw [List.map_nil, List.append_nil, Nat.add_zero] at k
  have e1 : (scanF ((a ++ [10]) ++ b)).2.2 = 0 := gu.1.mpr (by rw [q4]; exact k.1)
  refine ⟨e1, ?_⟩
  rw [gu.2 e1, q4, k.2, gA.2 h1, gb.2 h2]
end Go.Rk
