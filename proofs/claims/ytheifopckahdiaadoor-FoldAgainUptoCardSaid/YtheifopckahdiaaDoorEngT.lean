/- The engine for regions whose effects are not ordered among themselves: every order of the effects is walked; reads are walked as soon as they can be. Conditions: none. -/
import Derived.Test.YtheifopckahdiaaDoorRun
namespace Go.Rk
open Go Go.RowKit
set_option linter.unusedVariables false
/-- Growth but for one block. -/
abbrev GX (row : Option Nat) (w w' : World) : Prop := w.grownBy w' row
theorem GX.refl (row : Option Nat) (w : World) : GX row w w := (G.refl w).only row
/-- An effect in its turn, as Eff, under another relation. -/
def EffQ (P : Program) (Z : List PanicEntry → Act → World → Prop) (row : Option Nat) (gr : Bool) (o : Oper) (a : Act) (w : World) (next : Act → World → Prop) : Prop :=
  (∃ v w', (execOp a.eval o).run P w = .ok (.value v) w' ∧ (gr = true → GX row w w') ∧ next (a.put o.dst v) w') ∨
  (∃ w', (execOp a.eval o).run P w = .ok .skip w' ∧ (gr = true → GX row w w') ∧ next (a.put o.dst undef) w') ∨
  (∃ f args, (execOp a.eval o).run P w = .ok (.enter f args) w ∧ Calls P f args w fun e w' => (∃ v, e = .returned v ∧ (gr = true → GX row w w') ∧ next (a.put o.dst v) w') ∨ (∃ ch, e = .panicked ch ∧ Z ch a w')) ∨
  (∃ l f tmps asg body, (execOp a.eval o).run P w = .ok (.round l f tmps asg body) w ∧ RoundIn Fence.wide 0 P l f tmps asg body w fun e w' => ∃ v, e = .returned v ∧ (gr = true → GX row w w') ∧ next (a.put o.dst v) w')
theorem EffQ.wpIn {P : Program} {Z : List PanicEntry → Act → World → Prop} {row : Option Nat} {gr : Bool} {o : Oper} {a : Act} {w : World} {next : Act → World → Prop} {Q : Exit → Act → World → Prop} {ρ : Option Nat}
    (h : EffQ P Z row gr o a w next) (hZ : ∀ ch w', Z ch a w' → Q (.panic ch) a w') : o.wpIn (WF ρ) 0 P a w next Q := by
  refine Eff.wpIn (Z := Z) (gr := false) ?_ hZ
  rcases h with ⟨v, w', hr, _, hn⟩ | ⟨w', hr, _, hn⟩ | ⟨f, args, hr, hc⟩ | ⟨l, f, tmps, asg, body, hr, hc⟩
  · exact .inl ⟨v, w', hr, (fun h => by cases h), hn⟩
  · exact .inr (.inl ⟨w', hr, (fun h => by cases h), hn⟩)
  · refine .inr (.inr (.inl ⟨f, args, hr, Calls.mono hc fun e w' h => ?_⟩))
    rcases h with ⟨v, e1, _, h1⟩ | ⟨ch, e1, h1⟩
    · exact .inl ⟨v, e1, (fun h => by cases h), h1⟩
    · exact .inr ⟨ch, e1, h1⟩
  · refine .inr (.inr (.inr ⟨l, f, tmps, asg, body, hr, RoundIn.mono hc fun e w' h => ?_⟩))
    obtain ⟨v, e1, _, h1⟩ := h
    exact ⟨v, e1, (fun h => by cases h), h1⟩
theorem EffQ.turn {P : Program} {Z Z' : List PanicEntry → Act → World → Prop} {row : Option Nat} {gr : Bool} {o : Oper} {a b : Act} {w : World} {next next' : Act → World → Prop} (he : execOp b.eval o = execOp a.eval o)
    (hz : ∀ ch w', Z ch a w' → Z' ch b w')
    (hn : ∀ v w', (gr = true → GX row w w') → next (a.put o.dst v) w' → next' (b.put o.dst v) w') (h : EffQ P Z row gr o a w next) : EffQ P Z' row gr o b w next' := by
  rcases h with ⟨v, w', hr, hg, h1⟩ | ⟨w', hr, hg, h1⟩ | ⟨f, args, hr, hc⟩ | ⟨l, f, tmps, asg, body, hr, hc⟩
  · exact .inl ⟨v, w', by rw [he]; exact hr, hg, hn _ _ hg h1⟩
  · exact .inr (.inl ⟨w', by rw [he]; exact hr, hg, hn _ _ hg h1⟩)
  · refine .inr (.inr (.inl ⟨f, args, by rw [he]; exact hr, Calls.mono hc fun e w' h => ?_⟩))
    rcases h with ⟨v, e1, hg, h1⟩ | ⟨ch, e1, h1⟩
    · exact .inl ⟨v, e1, hg, hn _ _ hg h1⟩
    · exact .inr ⟨ch, e1, hz _ _ h1⟩
  · refine .inr (.inr (.inr ⟨l, f, tmps, asg, body, by rw [he]; exact hr, RoundIn.mono hc fun e w' h => ?_⟩))
    obtain ⟨v, e1, hg, h1⟩ := h
    exact ⟨v, e1, hg, hn _ _ hg h1⟩
def Avail (wt : Nat → Nat → Bool) (L : List Nat) (j : Nat) : Prop := ∀ i ∈ L, wt j i = false
section
variable (P : Program) (Z : List PanicEntry → Act → World → Prop) (ops : Array Oper) (cl : Nat → Nat) (wt : Nat → Nat → Bool) (row : Option Nat) (K : Act → World → Prop)
def RT : Nat → List Nat → Act → World → Prop
  | 0, L, a, w => L = [] ∧ K a w
  | n + 1, L, a, w =>
    (∃ r, r ∈ L ∧ Avail wt L r ∧ (cl r = 0 ∨ cl r = 3) ∧ ∃ o, ops[r]? = some o ∧ ∃ v, (Region.wanted o (yielded ops a.tmps) = true → ∀ w1, cl r = 3 ∨ GX row w w1 → (execOp a.eval o).run P w1 = .ok (.value v) w1) ∧
      (Region.wanted o (yielded ops a.tmps) = false → v = undef) ∧ RT n (L.erase r) (a.put o.dst v) w) ∨
    ((∀ r ∈ L, Avail wt L r → ¬ (cl r = 0 ∨ cl r = 3)) ∧ ∀ j ∈ L, Avail wt L j → ∃ o, ops[j]? = some o ∧
      if Region.wanted o (yielded ops a.tmps) = true then EffQ P Z row (cl j == 1) o a w (fun a' w' => RT n (L.erase j) a' w') else RT n (L.erase j) (a.put o.dst undef) w)
end
section
variable {P : Program} {Z : List PanicEntry → Act → World → Prop} {ops : Array Oper} {cl : Nat → Nat} {wt : Nat → Nat → Bool} {row : Option Nat} {K : Act → World → Prop}
structure OkayT (ops : Array Oper) (cl : Nat → Nat) (wt : Nat → Nat → Bool) : Prop where
  sel : ∀ (j : Nat) (o : Oper) cs b, ops[j]? = some o → o.op ≠ .select cs b
  way : ∀ (j : Nat) (o : Oper) (i : Nat), ops[j]? = some o → wt j i = true → ∃ e, e ∈ o.after ∧ Region.binds .any e = true ∧ (e.on = i ∨ wt e.on i = true)
  lt : ∀ (j : Nat) (o : Oper) (e : Edge), ops[j]? = some o → e ∈ o.after → Region.binds .any e = true → e.on < j
  pair : ∀ (i j : Nat) (oi oj : Oper), i < j → ops[i]? = some oi → ops[j]? = some oj → wt j i = false → (¬ (cl i = 0 ∨ cl i = 3) ∧ ¬ (cl j = 0 ∨ cl j = 3)) ∨ (oi.apart ops oj = true ∧ (cl i = 3 ∨ cl j = 3 ∨ (cl i = 0 ∧ cl j ≤ 1) ∨ (cl j = 0 ∧ cl i ≤ 1)))
/-- What a read and another operation that may come in either order share: nothing. -/
theorem OkayT.both (ok : OkayT ops cl wt) {r j : Nat} {or oj : Oper} (hr : ops[r]? = some or) (hj : ops[j]? = some oj) (hne : r ≠ j) (h1 : wt r j = false) (h2 : wt j r = false) (hc : cl r = 0 ∨ cl r = 3) :
    ((∀ d, or.dst = some d → d ∉ oj.looksAt ops) ∧ (∀ d, or.dst = some d → oj.dst ≠ some d) ∧ (∀ d, oj.dst = some d → d ∉ or.looksAt ops)) ∧ (cl r = 3 ∨ (cl r = 0 ∧ (cl j = 3 ∨ cl j ≤ 1))) := by
  rcases Nat.lt_or_gt_of_ne hne with hlt | hlt
  · rcases ok.pair r j or oj hlt hr hj h2 with h | ⟨h, hh⟩
    · exact absurd hc h.1
    · refine ⟨Oper.apart_spec h, ?_⟩
      rcases hc with hc | hc
      · right; refine ⟨hc, ?_⟩; omega
      · exact .inl hc
  · rcases ok.pair j r oj or hlt hj hr h1 with h | ⟨h, hh⟩
    · exact absurd hc h.2
    · obtain ⟨p1, p2, p3⟩ := Oper.apart_spec h
      refine ⟨⟨p3, fun d hd he => p2 d he hd, p1⟩, ?_⟩
      rcases hc with hc | hc
      · right; refine ⟨hc, ?_⟩; omega
      · exact .inl hc
theorem Avail.erase {L : List Nat} {j r : Nat} (h : Avail wt L j) : Avail wt (L.erase r) j := fun i hi => h i (List.mem_of_mem_erase hi)
theorem gx_trans {row : Option Nat} {a b c : World} (h : GX row a b) (k : GX row b c) : GX row a c := grownBy_trans h k
theorem front_rdT (ok : OkayT ops cl wt) {j : Nat} {oj : Oper} (hj : ops[j]? = some oj) (hcj : cl j = 0 ∨ cl j = 3) :
    ∀ (n : Nat) (L : List Nat) (a : Act) (w : World), L.length = n + 1 → L.Nodup → j ∈ L → Avail wt L j → RT P Z ops cl wt row K (n + 1) L a w →
    ∃ v, (Region.wanted oj (yielded ops a.tmps) = true → ∀ w1, cl j = 3 ∨ GX row w w1 → (execOp a.eval oj).run P w1 = .ok (.value v) w1) ∧
      (Region.wanted oj (yielded ops a.tmps) = false → v = undef) ∧ RT P Z ops cl wt row K n (L.erase j) (a.put oj.dst v) w := by
  intro n
  induction n with
  | zero =>
    intro L a w hn nd hm hav h
    obtain ⟨x, rfl⟩ : ∃ x, L = [x] := List.length_eq_one_iff.1 hn
    obtain rfl : j = x := List.mem_singleton.1 hm
    rcases h with ⟨r, hr, hra, hc, o, ho, v, h1, h2, h3⟩ | ⟨hno, _⟩
    · obtain rfl : r = j := List.mem_singleton.1 hr
      obtain rfl : o = oj := Option.some.inj (ho.symm.trans hj)
      exact ⟨v, h1, h2, h3⟩
    · exact absurd hcj (hno j hm hav)
  | succ n ih =>
    intro L a w hn nd hm hav h
    rcases h with ⟨r, hr, hra, hc, o, ho, u, h1, h2, h3⟩ | ⟨hno, _⟩
    · by_cases hrj : r = j
      · subst hrj
        obtain rfl : o = oj := Option.some.inj (ho.symm.trans hj)
        exact ⟨u, h1, h2, h3⟩
      · obtain ⟨⟨p1, p2, p3⟩, _⟩ := ok.both ho hj hrj (hra j hm) (hav r hr) hc
        have evj : ∀ v, execOp (a.put o.dst v).eval oj = execOp a.eval oj := fun v => execOp_put (ops := ops) oj (fun cs b => ok.sel j oj cs b hj) a o.dst v p1
        have waj : ∀ v, Region.wanted oj (yielded ops (a.put o.dst v).tmps) = Region.wanted oj (yielded ops a.tmps) := fun v => wanted_put oj a o.dst v p1
        have evi : ∀ v, execOp (a.put oj.dst v).eval o = execOp a.eval o := fun v => execOp_put (ops := ops) o (fun cs b => ok.sel r o cs b ho) a oj.dst v p3
        have wai : ∀ v, Region.wanted o (yielded ops (a.put oj.dst v).tmps) = Region.wanted o (yielded ops a.tmps) := fun v => wanted_put o a oj.dst v p3
        have hmj : j ∈ L.erase r := nd.mem_erase_iff.2 ⟨fun h => hrj h.symm, hm⟩
        have hmr : r ∈ L.erase j := nd.mem_erase_iff.2 ⟨hrj, hr⟩
        obtain ⟨v, k1, k2, k3⟩ := ih (L.erase r) _ w (by rw [List.length_erase_of_mem hr]; omega) (nd.erase r) hmj hav.erase h3
        rw [waj] at k1 k2
        rw [evj] at k1
        refine ⟨v, k1, k2, .inl ⟨r, hmr, hra.erase, hc, o, ho, u, ?_, ?_, ?_⟩⟩
        · rw [wai, evi]; exact h1
        · rw [wai]; exact h2
        · rw [List.erase_comm, ← Act.put_comm a u v p2]; exact k3
    · exact absurd hcj (hno j hm hav)
theorem front_effT (hZs : ∀ ch (a : Act) d v w, Z ch (a.put d v) w → Z ch a w) (ok : OkayT ops cl wt) {j : Nat} {oj : Oper} (hj : ops[j]? = some oj) (hcj : ¬ (cl j = 0 ∨ cl j = 3)) :
    ∀ (n : Nat) (L : List Nat) (a : Act) (w : World), L.length = n + 1 → L.Nodup → j ∈ L → Avail wt L j → RT P Z ops cl wt row K (n + 1) L a w →
    if Region.wanted oj (yielded ops a.tmps) = true then EffQ P Z row (cl j == 1) oj a w (fun a' w' => RT P Z ops cl wt row K n (L.erase j) a' w')
    else RT P Z ops cl wt row K n (L.erase j) (a.put oj.dst undef) w := by
  intro n
  induction n with
  | zero =>
    intro L a w hn nd hm hav h
    obtain ⟨x, rfl⟩ : ∃ x, L = [x] := List.length_eq_one_iff.1 hn
    obtain rfl : j = x := List.mem_singleton.1 hm
    rcases h with ⟨r, hr, hra, hc, _⟩ | ⟨_, hall⟩
    · obtain rfl : r = j := List.mem_singleton.1 hr
      exact absurd hc hcj
    · obtain ⟨o, ho, hb⟩ := hall j hm hav
      obtain rfl : o = oj := Option.some.inj (ho.symm.trans hj)
      exact hb
  | succ n ih =>
    intro L a w hn nd hm hav h
    rcases h with ⟨r, hr, hra, hc, o, ho, u, h1, h2, h3⟩ | ⟨_, hall⟩
    · have hrj : r ≠ j := fun e => hcj (e ▸ hc)
      obtain ⟨⟨p1, p2, p3⟩, hq⟩ := ok.both ho hj hrj (hra j hm) (hav r hr) hc
      have evj : ∀ v, execOp (a.put o.dst v).eval oj = execOp a.eval oj := fun v => execOp_put (ops := ops) oj (fun cs b => ok.sel j oj cs b hj) a o.dst v p1
      have waj : ∀ v, Region.wanted oj (yielded ops (a.put o.dst v).tmps) = Region.wanted oj (yielded ops a.tmps) := fun v => wanted_put oj a o.dst v p1
      have evi : ∀ v, execOp (a.put oj.dst v).eval o = execOp a.eval o := fun v => execOp_put (ops := ops) o (fun cs b => ok.sel r o cs b ho) a oj.dst v p3
      have wai : ∀ v, Region.wanted o (yielded ops (a.put oj.dst v).tmps) = Region.wanted o (yielded ops a.tmps) := fun v => wanted_put o a oj.dst v p3
      have hmj : j ∈ L.erase r := nd.mem_erase_iff.2 ⟨fun h => hrj h.symm, hm⟩
      have hmr : r ∈ L.erase j := nd.mem_erase_iff.2 ⟨hrj, hr⟩
      have k := ih (L.erase r) _ w (by rw [List.length_erase_of_mem hr]; omega) (nd.erase r) hmj hav.erase h3
      rw [waj] at k
      have back : ∀ x w', (cl j = 1 → GX row w w') → RT P Z ops cl wt row K n ((L.erase r).erase j) ((a.put o.dst u).put oj.dst x) w' → RT P Z ops cl wt row K (n + 1) (L.erase j) (a.put oj.dst x) w' := by
        intro x w' hg hk
        refine .inl ⟨r, hmr, hra.erase, hc, o, ho, u, ?_, ?_, ?_⟩
        · rw [wai, evi]
          intro hw w1 hg1
          refine h1 hw w1 ?_
          rcases hg1 with hg1 | hg1
          · exact .inl hg1
          · rcases hq with hq | ⟨_, hq⟩
            · exact .inl hq
            · refine .inr (gx_trans (hg ?_) hg1)
              have : ¬ cl j = 0 := fun e => hcj (.inl e)
              have : ¬ cl j = 3 := fun e => hcj (.inr e)
              omega
        · rw [wai]; exact h2
        · rw [List.erase_comm, ← Act.put_comm a u x p2]; exact hk
      by_cases hwj : Region.wanted oj (yielded ops a.tmps) = true
      · rw [if_pos hwj] at k ⊢
        exact k.turn (evj u).symm (fun ch w' h => hZs _ _ _ _ _ h) fun x w' hg hk => back x w' (fun h => hg (by simp [h])) hk
      · rw [if_neg hwj] at k ⊢
        exact back _ _ (fun _ => GX.refl _ _) k
    · obtain ⟨o, ho, hb⟩ := hall j hm hav
      obtain rfl : o = oj := Option.some.inj (ho.symm.trans hj)
      exact hb
theorem Left.waitsT (ok : OkayT ops cl wt) {L : List Nat} {listed : Array Bool} (hL : Left ops L listed) :
    ∀ (n j : Nat) (oj : Oper), j ≤ n → ops[j]? = some oj → (∀ e ∈ oj.after, Region.binds .any e = true → e.on ∉ L) → ∀ i ∈ L, wt j i = false := by
  intro n
  induction n with
  | zero =>
    intro j oj hjn hj _ i _
    cases hw : wt j i with
    | false => rfl
    | true =>
      obtain ⟨e, he, hb, _⟩ := ok.way j oj i hj hw
      have := ok.lt j oj e hj he hb
      omega
  | succ n ih =>
    intro j oj hjn hj hall i hi
    cases hw : wt j i with
    | false => rfl
    | true =>
      obtain ⟨e, he, hb, hh⟩ := ok.way j oj i hj hw
      have hlt := ok.lt j oj e hj he hb
      have hnot := hall e he hb
      rcases hh with rfl | hh
      · exact absurd hi hnot
      · have hes : e.on < ops.size := by have := (Array.getElem?_eq_some_iff.1 hj).1; omega
        have hoe : ops[e.on]? = some ops[e.on] := Array.getElem?_eq_getElem hes
        have := ih e.on _ (by omega) hoe (hL.closed e.on _ hoe hnot) i hi
        rw [this] at hh; cases hh
theorem any_of_RT {ρ : Option Nat} (hZs : ∀ ch (a : Act) d v w, Z ch (a.put d v) w → Z ch a w) (ok : OkayT ops cl wt) {Q : Exit → Act → World → Prop} (hQ : ∀ a w, K a w → Q .normal a w) (hZ : ∀ ch a w, Z ch a w → Q (.panic ch) a w) :
    ∀ (n : Nat) (L : List Nat) (listed : Array Bool) (a : Act) (w : World), L.length = n → Left ops L listed → RT P Z ops cl wt row K n L a w → wpAnyIn (WF ρ) 0 P .any ops Q n listed a w := by
  intro n
  induction n with
  | zero =>
    intro L listed a w hn hL h
    obtain rfl : L = [] := List.eq_nil_of_length_eq_zero hn
    refine ⟨?_, hQ _ _ h.2⟩
    refine List.eq_nil_iff_forall_not_mem.2 fun j hj => ?_
    obtain ⟨h0, o, ho, _⟩ := mem_ready.1 hj
    have := (hL.mem j).2 ⟨(Array.getElem?_eq_some_iff.1 ho).1, h0⟩
    cases this
  | succ n ih =>
    intro L listed a w hn hL h
    have nd : L.Nodup := hL.sorted.imp (fun h => Nat.ne_of_lt h)
    have inL : ∀ j, j ∈ Region.ready .any ops listed → ∃ oj, ops[j]? = some oj ∧ j ∈ L ∧ ∀ e ∈ oj.after, Region.binds .any e = true → e.on ∉ L := by
      intro j hj
      obtain ⟨h0, oj, ho, hall⟩ := mem_ready.1 hj
      have hjs := (Array.getElem?_eq_some_iff.1 ho).1
      refine ⟨oj, ho, (hL.mem j).2 ⟨hjs, h0⟩, fun e he hb hm => ?_⟩
      have h1 := hall e he hb
      obtain ⟨h2, h3⟩ := (hL.mem e.on).1 hm
      have h4 : e.on < listed.size := by rw [hL.size]; exact h2
      simp [h4] at h1 h3
      rw [h1] at h3; cases h3
    refine ⟨fun h0 => ?_, fun j hj => ?_⟩
    · exfalso
      match L, hn, hL with
      | i :: rest, _, hL =>
        have him := (hL.mem i).1 List.mem_cons_self
        have hoi : ops[i]? = some ops[i] := Array.getElem?_eq_getElem him.1
        have : i ∈ Region.ready .any ops listed := by
          refine mem_ready.2 ⟨him.2, _, hoi, fun e he hb => ?_⟩
          have hlt := ok.lt i _ e hoi he hb
          have hno : e.on ∉ i :: rest := by
            intro hm
            rcases List.mem_cons.1 hm with hm | hm
            · omega
            · have := (List.pairwise_cons.1 hL.sorted).1 _ hm; omega
          have hes : e.on < listed.size := by rw [hL.size]; omega
          cases hl : listed.getD e.on true with
          | false => exact absurd ((hL.mem e.on).2 ⟨by rw [← hL.size]; exact hes, hl⟩) hno
          | true => simpa [hes] using hl
        rw [h0] at this; cases this
    · obtain ⟨oj, hoj, hjL, hall⟩ := inL j hj
      have hws : ∀ i ∈ L, wt j i = false := hL.waitsT ok j j oj (Nat.le_refl _) hoj hall
      have hL' := hL.step hoj hall
      have hlen : (L.erase j).length = n := by rw [List.length_erase_of_mem hjL]; omega
      unfold wpOpIn
      simp only [hoj]
      by_cases hc : cl j = 0 ∨ cl j = 3
      · obtain ⟨v, h1, h2, h3⟩ := front_rdT ok hoj hc n L a w hn nd hjL hws h
        have hnext := ih (L.erase j) _ (a.put oj.dst v) w hlen hL' h3
        by_cases hwj : Region.wanted oj (yielded ops a.tmps) = true
        · rw [if_pos hwj]
          have hr := h1 hwj w (.inr (GX.refl _ _))
          refine ⟨fun _ _ => trivial, ?_⟩
          rw [semAt_of hr (fun d h => by cases h), hr]
          exact hnext
        · rw [if_neg hwj]
          have := h2 (by simpa using hwj)
          subst this
          exact ⟨fun _ _ => trivial, hnext⟩
      · have h1 := front_effT hZs ok hoj hc n L a w hn nd hjL hws h
        by_cases hwj : Region.wanted oj (yielded ops a.tmps) = true
        · rw [if_pos hwj] at h1 ⊢
          refine EffQ.wpIn (Z := Z) (gr := cl j == 1) (row := row) ?_ (fun ch w' h => hZ _ _ _ h)
          exact h1.turn rfl (fun _ _ h => h) fun v w' _ hk => ih (L.erase j) _ _ w' hlen hL' hk
        · rw [if_neg hwj] at h1 ⊢
          exact ⟨fun _ _ => trivial, ih (L.erase j) _ _ w hlen hL' h1⟩
theorem wpIn_drawT {ρ : Option Nat} (hZs : ∀ ch (a : Act) d v w, Z ch (a.put d v) w → Z ch a w) (ok : OkayT ops cl wt) {id : Nat} {Q : Exit → Act → World → Prop} (hZ : ∀ ch a w, Z ch a w → Q (.panic ch) a w) {a : Act} {w : World} (hm : P.follows .mixedOrders = true)
    (h : RT P Z ops cl wt row (fun a w => Q .normal a w) ops.size (List.range ops.size) a w.drew) : (Code.region id ops true).wpIn (WF ρ) 0 P Q a w := by
  refine wpIn_region_any hm ?_
  have := any_of_RT (Q := Q) (ρ := ρ) hZs ok (fun _ _ h => h) hZ ops.size (List.range ops.size) (Array.replicate ops.size false) a w.drew (by simp) (left_start ops) h
  simpa using this
theorem wp_drawT (ok : OkayT ops cl wt) {id : Nat} {Q : Exit → Act → World → Prop} {a : Act} {w : World} (hm : P.follows .mixedOrders = true)
    (h : RT P NoP ops cl wt row (fun a w => Q .normal a w) ops.size (List.range ops.size) a w.drew) : (Code.region id ops true).wp P Q a w :=
  wpIn_wide.1 (wpIn_drawT (ρ := none) (fun _ _ _ _ _ h => h) ok (fun _ _ _ h => h.elim) hm h)
end

/-! a look at the region's text -/
def lookT (ops : Array Oper) (cl : List Nat) (ms : List Nat) (E : List (Nat × Oper × Nat)) (k : Nat) (o : Oper) : Bool :=
  noSel o && o.after.toList.all (fun e => !Region.binds .any e || Nat.blt e.on k) && Nat.beq (ms.getD k 0) (maskOf ms o.after.toList) &&
  E.all (fun p => (ms.getD k 0).testBit p.1 || (!(Nat.beq p.2.2 0 || Nat.beq p.2.2 3) && !(Nat.beq (clOf cl k) 0 || Nat.beq (clOf cl k) 3)) || (p.2.1.apart ops o && (Nat.beq p.2.2 3 || Nat.beq (clOf cl k) 3 || (Nat.beq p.2.2 0 && Nat.ble (clOf cl k) 1) || (Nat.beq (clOf cl k) 0 && Nat.ble p.2.2 1))))
def lookFromT (ops : Array Oper) (cl : List Nat) (ms : List Nat) : List (Nat × Oper × Nat) → Nat → List Oper → Bool
  | _, _, [] => true
  | E, k, o :: rest => lookT ops cl ms E k o && lookFromT ops cl ms ((k, o, clOf cl k) :: E) (k + 1) rest
def okT (l : List Oper) (cl : List Nat) (ms : List Nat) : Bool := lookFromT l.toArray cl ms [] 0 l && Nat.ble ms.length l.length
theorem lookFromT_spec (ops : Array Oper) (cl : List Nat) (ms : List Nat) : ∀ (l : List Oper) (E : List (Nat × Oper × Nat)) (k : Nat),
    (∀ j, l[j]? = ops[k + j]?) → (∀ i, i < k → ∃ oi, ops[i]? = some oi ∧ (i, oi, clOf cl i) ∈ E) → lookFromT ops cl ms E k l = true →
    ∀ j oj, k ≤ j → ops[j]? = some oj → ∃ E', (∀ i, i < j → ∃ oi, ops[i]? = some oi ∧ (i, oi, clOf cl i) ∈ E') ∧ lookT ops cl ms E' j oj = true
  | [], _, k, hl, _, _ => by
    intro j oj hkj hj
    have := hl (j - k)
    rw [show k + (j - k) = j by omega, hj] at this
    simp at this
  | o :: rest, E, k, hl, hE, h => by
    intro j oj hkj hj
    unfold lookFromT at h
    rw [Bool.and_eq_true] at h
    have h0 : ops[k]? = some o := by simpa using (hl 0).symm
    by_cases hjk : j = k
    · subst hjk
      obtain rfl : o = oj := Option.some.inj (h0.symm.trans hj)
      exact ⟨E, hE, h.1⟩
    · refine lookFromT_spec ops cl ms rest ((k, o, clOf cl k) :: E) (k + 1) (fun j => by have := hl (j + 1); simpa [Nat.add_assoc, Nat.add_comm 1 j] using this) ?_ h.2 j oj (by omega) hj
      intro i hi
      by_cases hik : i = k
      · subst hik
        exact ⟨o, h0, List.mem_cons_self⟩
      · obtain ⟨oi, h1, h2⟩ := hE i (by omega)
        exact ⟨oi, h1, List.mem_cons_of_mem _ h2⟩
theorem okayT_of {l : List Oper} {cl : List Nat} {ms : List Nat} (h : okT l cl ms = true) : OkayT l.toArray (clOf cl) (wtOf ms) := by
  unfold okT at h
  rw [Bool.and_eq_true] at h
  obtain ⟨h, hml⟩ := h
  have S := lookFromT_spec l.toArray cl ms l [] 0 (by simp) (fun i hi => absurd hi (by omega)) h
  have at_ : ∀ j oj, l.toArray[j]? = some oj → ∃ E', (∀ i, i < j → ∃ oi, l.toArray[i]? = some oi ∧ (i, oi, clOf cl i) ∈ E') ∧ lookT l.toArray cl ms E' j oj = true := fun j oj hj => S j oj (Nat.zero_le _) hj
  refine ⟨?_, ?_, ?_, ?_⟩
  · intro j o cs b hj heq
    obtain ⟨E', _, hh⟩ := at_ j o hj
    simp [lookT, noSel, heq] at hh
  · intro j o i hj hw
    obtain ⟨E', _, hh⟩ := at_ j o hj
    simp only [lookT, Bool.and_eq_true] at hh
    have hm := Nat.eq_of_beq_eq_true hh.1.2
    unfold wtOf at hw
    rw [hm] at hw
    obtain ⟨e, h1, h2⟩ := mask_spec ms i _ hw
    exact ⟨e, Array.mem_toList_iff.1 h1, h2⟩
  · intro j o e hj he hb
    obtain ⟨E', _, hh⟩ := at_ j o hj
    simp only [lookT, Bool.and_eq_true, List.all_eq_true, Array.mem_toList_iff, Bool.or_eq_true, Bool.not_eq_true'] at hh
    rcases hh.1.1.2 e he with h1 | h1
    · rw [hb] at h1; cases h1
    · exact Nat.le_of_ble_eq_true h1
  · intro i j oi oj hij hi hj hw
    obtain ⟨E', hE, hh⟩ := at_ j oj hj
    simp only [lookT, Bool.and_eq_true, List.all_eq_true] at hh
    obtain ⟨oi', h1, h2⟩ := hE i hij
    obtain rfl : oi' = oi := Option.some.inj (h1.symm.trans hi)
    have h3 := hh.2 _ h2
    unfold wtOf at hw
    dsimp only at h3
    rw [hw] at h3
    have e : ∀ (a b : Nat), Nat.beq a b = true ↔ a = b := fun a b => ⟨Nat.eq_of_beq_eq_true, fun h => by subst h; exact Nat.beq_refl a⟩
    have e' : ∀ (a b : Nat), Nat.ble a b = true ↔ a ≤ b := fun a b => ⟨Nat.le_of_ble_eq_true, Nat.ble_eq_true_of_le⟩
    simp only [Bool.false_or, Bool.or_eq_true, Bool.and_eq_true, Bool.not_eq_true', ← Bool.not_eq_true, e, e'] at h3
    rcases h3 with h3 | ⟨ha, h3⟩
    · exact .inl ⟨h3.1, h3.2⟩
    · refine .inr ⟨ha, ?_⟩
      rcases h3 with ((h3 | h3) | h3) | h3
      · exact .inl h3
      · exact .inr (.inl h3)
      · exact .inr (.inr (.inl h3))
      · exact .inr (.inr (.inr h3))
/-! the steps -/
def isRdB (cl : List Nat) (j : Nat) : Bool := Nat.beq (clOf cl j) 0 || Nat.beq (clOf cl j) 3
def availB (ms : List Nat) (L : List Nat) (j : Nat) : Bool := L.all fun i => !(wtOf ms j i)
def candB (cl ms L : List Nat) : List Nat := L.filter fun j => availB ms L j
theorem avail_iff (ms : List Nat) (L : List Nat) (j : Nat) : availB ms L j = true ↔ Avail (wtOf ms) L j := by
  unfold availB Avail; simp [List.all_eq_true]
theorem isRdB_iff (cl : List Nat) (j : Nat) : isRdB cl j = true ↔ (clOf cl j = 0 ∨ clOf cl j = 3) := by
  unfold isRdB; rw [Bool.or_eq_true]
  exact ⟨fun h => h.imp Nat.eq_of_beq_eq_true Nat.eq_of_beq_eq_true, fun h => h.imp (fun e => by rw [e]; rfl) (fun e => by rw [e]; rfl)⟩
def ST (P : Program) (Z : List PanicEntry → Act → World → Prop) (ops : List Oper) (cl ms : List Nat) (row : Option Nat) (n : Nat) (K : Act → World → Prop) (m : Nat) (L : List Nat) (σ : List Ent) (w : World) : Prop :=
  ∀ a, Kn n σ a → RT P Z ops.toArray (clOf cl) (wtOf ms) row K m L a w
section
variable {P : Program} {Z : List PanicEntry → Act → World → Prop} {ops : List Oper} {cl ms : List Nat} {row : Option Nat} {n : Nat} {K : Act → World → Prop} {m : Nat} {L L' : List Nat} {σ : List Ent} {w : World} {d : Nat} {op : Op} {ty : TypeId} {pos : String} {after : Array Edge} {v : Value}
theorem st_nil (h : ∀ a, Kn n σ a → K a w) : ST P Z ops cl ms row n K 0 [] σ w := fun a ha => ⟨rfl, h a ha⟩
theorem st_sub (τ : List Ent) (hs : Sub τ σ) (h : ST P Z ops cl ms row n K m L τ w) : ST P Z ops cl ms row n K m L σ w := fun a ha => h a (ha.sub hs)
theorem st_rd (r : Nat) (hr : ops.toArray[r]? = some ⟨some d, op, ty, pos, after, none⟩) (hb : (L.contains r && availB ms L r && Nat.beq (clOf cl r) 0 && Nat.blt d n) = true) (hL : L.erase r = L')
    (hv : ∀ w1, GX row w w1 → Rd P n σ True w1 op ty v) (h : ST P Z ops cl ms row n K m L' ((d, True, v) :: σ) w) : ST P Z ops cl ms row n K (m + 1) L σ w := fun a ha => by
  simp only [Bool.and_eq_true] at hb
  obtain ⟨⟨⟨h1, h2⟩, h3⟩, h4⟩ := hb
  refine .inl ⟨r, by simpa using h1, (avail_iff ms L r).1 h2, .inl (Nat.eq_of_beq_eq_true h3), _, hr, v, fun _ w1 hg => ?_, (fun hn => by cases hn), hL ▸ h _ (ha.put h4 (fun _ => rfl) (fun hn => absurd trivial hn))⟩
  rcases hg with hg | hg
  · rw [Nat.eq_of_beq_eq_true h3] at hg; cases hg
  · exact hv w1 hg _ _ _ _ a ha trivial w1 (G.refl _)
theorem st_pu (r : Nat) (hr : ops.toArray[r]? = some ⟨some d, op, ty, pos, after, none⟩) (hb : (L.contains r && availB ms L r && Nat.beq (clOf cl r) 3 && Nat.blt d n) = true) (hL : L.erase r = L')
    (hv : ∀ wb, Rd P n σ True wb op ty v) (h : ST P Z ops cl ms row n K m L' ((d, True, v) :: σ) w) : ST P Z ops cl ms row n K (m + 1) L σ w := fun a ha => by
  simp only [Bool.and_eq_true] at hb
  obtain ⟨⟨⟨h1, h2⟩, h3⟩, h4⟩ := hb
  exact .inl ⟨r, by simpa using h1, (avail_iff ms L r).1 h2, .inr (Nat.eq_of_beq_eq_true h3), _, hr, v, fun _ w1 hg => hv w1 _ _ _ _ a ha trivial w1 (G.refl _), (fun hn => by cases hn), hL ▸ h _ (ha.put h4 (fun _ => rfl) (fun hn => absurd trivial hn))⟩
open Classical in
theorem st_rdg {g t : Nat} {want b : Bool} {c0 : Prop} (r : Nat) (hr : ops.toArray[r]? = some ⟨some d, op, ty, pos, after, some (g, want)⟩) (hb : (L.contains r && availB ms L r && Nat.beq (clOf cl r) 0 && Nat.blt d n) = true) (hL : L.erase r = L')
    (hgd : ((ops.toArray[g]?).bind (·.dst)) = some t) (hlk : look σ t = some (c0, .bool b))
    (hv : ∀ w1, GX row w w1 → Rd P n σ (c0 ∧ b = want) w1 op ty v) (h : ST P Z ops cl ms row n K m L' ((d, c0 ∧ b = want, v) :: σ) w) : ST P Z ops cl ms row n K (m + 1) L σ w := fun a ha => by
  simp only [Bool.and_eq_true] at hb
  obtain ⟨⟨⟨h1, h2⟩, h3⟩, h4⟩ := hb
  have hw := want_of (op := op) (ty := ty) (pos := pos) (after := after) (want := want) (d := some d) hgd hlk ha
  refine .inl ⟨r, by simpa using h1, (avail_iff ms L r).1 h2, .inl (Nat.eq_of_beq_eq_true h3), _, hr, if c0 ∧ b = want then v else undef, fun hwt w1 hg => ?_, fun hn => ?_, hL ▸ h _ (ha.put h4 (fun hh => if_pos hh) (fun hh => if_neg hh))⟩
  · rcases hg with hg | hg
    · rw [Nat.eq_of_beq_eq_true h3] at hg; cases hg
    · rw [if_pos (hw.1 hwt)]
      exact hv w1 hg _ _ _ _ a ha (hw.1 hwt) w1 (G.refl _)
  · rw [if_neg (fun hh => by rw [hw.2 hh] at hn; cases hn)]
open Classical in
theorem st_pug {g t : Nat} {want b : Bool} {c0 : Prop} (r : Nat) (hr : ops.toArray[r]? = some ⟨some d, op, ty, pos, after, some (g, want)⟩) (hb : (L.contains r && availB ms L r && Nat.beq (clOf cl r) 3 && Nat.blt d n) = true) (hL : L.erase r = L')
    (hgd : ((ops.toArray[g]?).bind (·.dst)) = some t) (hlk : look σ t = some (c0, .bool b))
    (hv : ∀ wb, Rd P n σ (c0 ∧ b = want) wb op ty v) (h : ST P Z ops cl ms row n K m L' ((d, c0 ∧ b = want, v) :: σ) w) : ST P Z ops cl ms row n K (m + 1) L σ w := fun a ha => by
  simp only [Bool.and_eq_true] at hb
  obtain ⟨⟨⟨h1, h2⟩, h3⟩, h4⟩ := hb
  have hw := want_of (op := op) (ty := ty) (pos := pos) (after := after) (want := want) (d := some d) hgd hlk ha
  refine .inl ⟨r, by simpa using h1, (avail_iff ms L r).1 h2, .inr (Nat.eq_of_beq_eq_true h3), _, hr, if c0 ∧ b = want then v else undef, fun hwt w1 hg => ?_, fun hn => ?_, hL ▸ h _ (ha.put h4 (fun hh => if_pos hh) (fun hh => if_neg hh))⟩
  · rw [if_pos (hw.1 hwt)]
    exact hv w1 _ _ _ _ a ha (hw.1 hwt) w1 (G.refl _)
  · rw [if_neg (fun hh => by rw [hw.2 hh] at hn; cases hn)]
/-- One effect in its turn. -/
def STE (P : Program) (Z : List PanicEntry → Act → World → Prop) (ops : List Oper) (cl ms : List Nat) (row : Option Nat) (n : Nat) (K : Act → World → Prop) (m : Nat) (L : List Nat) (σ : List Ent) (w : World) (j : Nat) : Prop :=
  ∀ a, Kn n σ a → ∃ o, ops.toArray[j]? = some o ∧ if Region.wanted o (yielded ops.toArray a.tmps) = true then EffQ P Z row (clOf cl j == 1) o a w (fun a' w' => RT P Z ops.toArray (clOf cl) (wtOf ms) row K m (L.erase j) a' w')
    else RT P Z ops.toArray (clOf cl) (wtOf ms) row K m (L.erase j) (a.put o.dst undef) w
theorem st_eff (cs : List Nat) (hb : L.all (fun r => !(availB ms L r && isRdB cl r)) = true) (hc : candB cl ms L = cs) (h : ∀ j ∈ cs, STE P Z ops cl ms row n K m L σ w j) : ST P Z ops cl ms row n K (m + 1) L σ w := fun a ha => by
  refine .inr ⟨fun r hr hav hrd => ?_, fun j hj hav => ?_⟩
  · have := List.all_eq_true.1 hb r hr
    rw [(avail_iff ms L r).2 hav, (isRdB_iff cl r).2 hrd] at this; cases this
  · exact h j (by rw [← hc]; exact List.mem_filter.2 ⟨hj, (avail_iff ms L j).2 hav⟩) a ha
theorem st_eff1 (j : Nat) (hb : L.all (fun r => !(availB ms L r && isRdB cl r)) = true) (hc : candB cl ms L = [j]) (h : STE P Z ops cl ms row n K m L σ w j) : ST P Z ops cl ms row n K (m + 1) L σ w :=
  st_eff [j] hb hc fun i hi => by rw [List.mem_singleton.1 hi]; exact h
theorem st_eff2 (j k : Nat) (hb : L.all (fun r => !(availB ms L r && isRdB cl r)) = true) (hc : candB cl ms L = [j, k]) (h : STE P Z ops cl ms row n K m L σ w j) (h' : STE P Z ops cl ms row n K m L σ w k) : ST P Z ops cl ms row n K (m + 1) L σ w :=
  st_eff [j, k] hb hc fun i hi => by
    rcases List.mem_cons.1 hi with rfl | hi
    · exact h
    · rw [List.mem_singleton.1 hi]; exact h'
theorem st_eff3 (j k l : Nat) (hb : L.all (fun r => !(availB ms L r && isRdB cl r)) = true) (hc : candB cl ms L = [j, k, l]) (h : STE P Z ops cl ms row n K m L σ w j) (h' : STE P Z ops cl ms row n K m L σ w k) (h'' : STE P Z ops cl ms row n K m L σ w l) : ST P Z ops cl ms row n K (m + 1) L σ w :=
  st_eff [j, k, l] hb hc fun i hi => by
    rcases List.mem_cons.1 hi with rfl | hi
    · exact h
    · rcases List.mem_cons.1 hi with rfl | hi
      · exact h'
      · rw [List.mem_singleton.1 hi]; exact h''
/-- Out of a step of the other engine. -/
theorem ste_of_sr {j : Nat} {o : Oper} (cl2 : List Nat) (ho : ops.toArray[j]? = some o) (hL : L.erase j = L') (hc : (Nat.beq (clOf cl2 j) 0 || Nat.beq (clOf cl2 j) 3) = false)
    (h : SR P Z ops cl2 [] w n (fun a' w' => GX row w w' ∧ RT P Z ops.toArray (clOf cl) (wtOf ms) row K m L' a' w') j [o] σ w) : STE P Z ops cl ms row n K m L σ w j := fun a ha => by
  subst hL
  have h1 := h (fun i o' h => by cases i with
    | zero => injection h with h; subst h; exact ho
    | succ i => cases h) a ha
  · have hc' : ¬ (clOf cl2 j = 0 ∨ clOf cl2 j = 3) := by
      intro e; rw [Bool.or_eq_false_iff] at hc
      rcases e with e | e <;> rw [e] at hc <;> simp at hc
    obtain ⟨o', ho', h2⟩ := h1
    obtain rfl : o' = o := Option.some.inj (ho'.symm.trans ho)
    rw [if_neg hc'] at h2
    refine ⟨o', ho, ?_⟩
    by_cases hw : Region.wanted o' (yielded ops.toArray a.tmps) = true
    · rw [if_pos hw] at h2 ⊢
      rcases h2 with ⟨v, w', hr, _, hn⟩ | ⟨w', hr, _, hn⟩ | ⟨f, args, hr, hcl⟩ | ⟨l, f, tmps, asg, body, hr, hcl⟩
      · exact .inl ⟨v, w', hr, fun _ => hn.1, hn.2⟩
      · exact .inr (.inl ⟨w', hr, fun _ => hn.1, hn.2⟩)
      · refine .inr (.inr (.inl ⟨f, args, hr, Calls.mono hcl fun e w' h => ?_⟩))
        rcases h with ⟨v, he, _, hn⟩ | h
        · exact .inl ⟨v, he, fun _ => hn.1, hn.2⟩
        · exact .inr h
      · exact .inr (.inr (.inr ⟨l, f, tmps, asg, body, hr, RoundIn.mono hcl fun e w' ⟨v, he, _, hn⟩ => ⟨v, he, fun _ => hn.1, hn.2⟩⟩))
    · rw [if_neg hw] at h2 ⊢
      exact h2.2
theorem ste2_of_sr {j : Nat} {o : Oper} (cl2 : List Nat) (ho : ops.toArray[j]? = some o) (hL : L.erase j = L') (hc : (Nat.beq (clOf cl2 j) 0 || Nat.beq (clOf cl2 j) 3) = false) (h1c : Nat.beq (clOf cl j) 1 = false)
    (h : SR P Z ops cl2 [] w n (fun a' w' => RT P Z ops.toArray (clOf cl) (wtOf ms) row K m L' a' w') j [o] σ w) : STE P Z ops cl ms row n K m L σ w j := fun a ha => by
  subst hL
  have h1 := h (fun i o' h => by cases i with
    | zero => injection h with h; subst h; exact ho
    | succ i => cases h) a ha
  have hc' : ¬ (clOf cl2 j = 0 ∨ clOf cl2 j = 3) := by
    intro e; rw [Bool.or_eq_false_iff] at hc
    rcases e with e | e <;> rw [e] at hc <;> simp at hc
  have h1c' : (clOf cl j == 1) = false := by
    cases h : (clOf cl j == 1) with
    | false => rfl
    | true => rw [eq_of_beq h] at h1c; cases h1c
  obtain ⟨o', ho', h2⟩ := h1
  obtain rfl : o' = o := Option.some.inj (ho'.symm.trans ho)
  rw [if_neg hc'] at h2
  refine ⟨o', ho, ?_⟩
  rw [h1c']
  by_cases hw : Region.wanted o' (yielded ops.toArray a.tmps) = true
  · rw [if_pos hw] at h2 ⊢
    rcases h2 with ⟨v, w', hr, _, hn⟩ | ⟨w', hr, _, hn⟩ | ⟨f, args, hr, hcl⟩ | ⟨l, f, tmps, asg, body, hr, hcl⟩
    · exact .inl ⟨v, w', hr, (fun h => by cases h), hn⟩
    · exact .inr (.inl ⟨w', hr, (fun h => by cases h), hn⟩)
    · refine .inr (.inr (.inl ⟨f, args, hr, Calls.mono hcl fun e w' h => ?_⟩))
      rcases h with ⟨v, he, _, hn⟩ | h
      · exact .inl ⟨v, he, (fun h => by cases h), hn⟩
      · exact .inr h
    · exact .inr (.inr (.inr ⟨l, f, tmps, asg, body, hr, RoundIn.mono hcl fun e w' ⟨v, he, _, hn⟩ => ⟨v, he, (fun h => by cases h), hn⟩⟩))
  · rw [if_neg hw] at h2 ⊢
    exact h2
theorem sr_nilT2 {cl2 : List Nat} {W0 : World} {k : Nat} (h : ST P Z ops cl ms row n K m L σ w) : SR P Z ops cl2 [] W0 n (fun a' w' => RT P Z ops.toArray (clOf cl) (wtOf ms) row K m L a' w') k [] σ w := sr_nil h
theorem sr_nilT {cl2 : List Nat} {W0 w0 : World} {k : Nat} (hg : GX row w0 w) (h : ST P Z ops cl ms row n K m L σ w) : SR P Z ops cl2 [] W0 n (fun a' w' => GX row w0 w' ∧ RT P Z ops.toArray (clOf cl) (wtOf ms) row K m L a' w') k [] σ w := sr_nil fun a ha => ⟨hg, h a ha⟩
end
section
variable {P : Program} {n : Nat} {N T : Act → World → Prop} {X : List (Nat × (Act → World → Prop))} {σ : List Ent} {w : World}
theorem sc_drawT {id : Nat} {l : List Oper} (row : Option Nat) (cl : List Nat) (ms : List Nat) (hm : P.follows .mixedOrders = true) (hok : okT l cl ms = true) (L : List Nat) (hL : List.range l.length = L)
    (h : ST P NoP l cl ms row n N l.length L σ w.drew) : SC P n (.region id l.toArray true) N X T σ w := fun a ha => by
  have h1 := h a ha
  subst hL
  have h2 : RT P NoP l.toArray (clOf cl) (wtOf ms) row (fun a w => (Qof N X T) .normal a w) l.toArray.size (List.range l.toArray.size) a w.drew := by simpa [Qof] using h1
  exact wp_drawT (okayT_of hok) hm h2
end
end Go.Rk
