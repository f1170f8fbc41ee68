/- Merged texts of one road: EngT, Nest, Facts, ScanA, ScanB, ScanC. Conditions: each text's own. -/
import Derived.Test.YteicjpedahoilaaDoorB01
import Derived.Test.YteicjpedahoilaaDoorProg
import Derived.KernelRfl
set_option linter.unusedSimpArgs false
set_option linter.unusedVariables false
namespace Go.Rk
open Go Go.RowKit
set_option linter.unusedVariables false
/-- Growth but for one block. -/
abbrev GX (row : Option Nat) (w w' : World) : Prop := w.grownBy w' row
theorem GX.refl (row : Option Nat) (w : World) : GX row w w := (G.refl w).only row
/-- An effect in its turn, as Eff, under another relation. -/
def EffQ (P : Program) (Z : List PanicEntry → Act → World → Prop) (row : Option Nat) (gr : Bool) (o : Oper) (a : Act) (w : World) (next : Act → World → Prop) : Prop :=
  (∃ v w', (execOp a.eval o).run P w = .ok (.value v) w' ∧ (gr = true → GX row w w') ∧ next (a.put o.dst v) w') ∨
  (∃ w', (execOp a.eval o).run P w = .ok .skip w' ∧ (gr = true → GX row w w') ∧ next (a.put o.dst undef) w') ∨
  (∃ f args, (execOp a.eval o).run P w = .ok (.enter f args) w ∧ Calls P f args w fun e w' => (∃ v, e = .returned v ∧ (gr = true → GX row w w') ∧ next (a.put o.dst v) w') ∨ (∃ ch, e = .panicked ch ∧ Z ch a w')) ∨
  (∃ l f tmps asg body, (execOp a.eval o).run P w = .ok (.round l f tmps asg body) w ∧ RoundIn Fence.wide 0 P l f tmps asg body w fun e w' => ∃ v, e = .returned v ∧ (gr = true → GX row w w') ∧ next (a.put o.dst v) w')
theorem EffQ.wpIn {P : Program} {Z : List PanicEntry → Act → World → Prop} {row : Option Nat} {gr : Bool} {o : Oper} {a : Act} {w : World} {next : Act → World → Prop} {Q : Exit → Act → World → Prop} {ρ : Option Nat}
    (h : EffQ P Z row gr o a w next) (hZ : ∀ ch w', Z ch a w' → Q (.panic ch) a w') : o.wpIn (WF ρ) 0 P a w next Q := by
  refine Eff.wpIn (Z := Z) (gr := false) ?_ hZ
  rcases h with ⟨v, w', hr, _, hn⟩ | ⟨w', hr, _, hn⟩ | ⟨f, args, hr, hc⟩ | ⟨l, f, tmps, asg, body, hr, hc⟩
  · exact .inl ⟨v, w', hr, (fun h => by cases h), hn⟩
  · exact .inr (.inl ⟨w', hr, (fun h => by cases h), hn⟩)
  · refine .inr (.inr (.inl ⟨f, args, hr, Calls.mono hc fun e w' h => ?_⟩))
    rcases h with ⟨v, e1, _, h1⟩ | ⟨ch, e1, h1⟩
    · exact .inl ⟨v, e1, (fun h => by cases h), h1⟩
    · exact .inr ⟨ch, e1, h1⟩
  · refine .inr (.inr (.inr ⟨l, f, tmps, asg, body, hr, RoundIn.mono hc fun e w' h => ?_⟩))
    obtain ⟨v, e1, _, h1⟩ := h
    exact ⟨v, e1, (fun h => by cases h), h1⟩
theorem EffQ.turn {P : Program} {Z Z' : List PanicEntry → Act → World → Prop} {row : Option Nat} {gr : Bool} {o : Oper} {a b : Act} {w : World} {next next' : Act → World → Prop} (he : execOp b.eval o = execOp a.eval o)
    (hz : ∀ ch w', Z ch a w' → Z' ch b w')
    (hn : ∀ v w', (gr = true → GX row w w') → next (a.put o.dst v) w' → next' (b.put o.dst v) w') (h : EffQ P Z row gr o a w next) : EffQ P Z' row gr o b w next' := by
  rcases h with ⟨v, w', hr, hg, h1⟩ | ⟨w', hr, hg, h1⟩ | ⟨f, args, hr, hc⟩ | ⟨l, f, tmps, asg, body, hr, hc⟩
  · exact .inl ⟨v, w', by rw [he]; exact hr, hg, hn _ _ hg h1⟩
  · exact .inr (.inl ⟨w', by rw [he]; exact hr, hg, hn _ _ hg h1⟩)
  · refine .inr (.inr (.inl ⟨f, args, by rw [he]; exact hr, Calls.mono hc fun e w' h => ?_⟩))
    rcases h with ⟨v, e1, hg, h1⟩ | ⟨ch, e1, h1⟩
    · exact .inl ⟨v, e1, hg, hn _ _ hg h1⟩
    · exact .inr ⟨ch, e1, hz _ _ h1⟩
  · refine .inr (.inr (.inr ⟨l, f, tmps, asg, body, by rw [he]; exact hr, RoundIn.mono hc fun e w' h => ?_⟩))
    obtain ⟨v, e1, hg, h1⟩ := h
    exact ⟨v, e1, hg, hn _ _ hg h1⟩
def Avail (wt : Nat → Nat → Bool) (L : List Nat) (j : Nat) : Prop := ∀ i ∈ L, wt j i = false
section
variable (P : Program) (Z : List PanicEntry → Act → World → Prop) (ops : Array Oper) (cl : Nat → Nat) (wt : Nat → Nat → Bool) (row : Option Nat) (K : Act → World → Prop)
def RT : Nat → List Nat → Act → World → Prop
  | 0, L, a, w => L = [] ∧ K a w
  | n + 1, L, a, w =>
    (∃ r, r ∈ L ∧ Avail wt L r ∧ (cl r = 0 ∨ cl r = 3) ∧ ∃ o, ops[r]? = some o ∧ ∃ v, (Region.wanted o (yielded ops a.tmps) = true → ∀ w1, cl r = 3 ∨ GX row w w1 → (execOp a.eval o).run P w1 = .ok (.value v) w1) ∧
      (Region.wanted o (yielded ops a.tmps) = false → v = undef) ∧ RT n (L.erase r) (a.put o.dst v) w) ∨
    ((∀ r ∈ L, Avail wt L r → ¬ (cl r = 0 ∨ cl r = 3)) ∧ ∀ j ∈ L, Avail wt L j → ∃ o, ops[j]? = some o ∧
      if Region.wanted o (yielded ops a.tmps) = true then EffQ P Z row (cl j == 1) o a w (fun a' w' => RT n (L.erase j) a' w') else RT n (L.erase j) (a.put o.dst undef) w)
end
section
variable {P : Program} {Z : List PanicEntry → Act → World → Prop} {ops : Array Oper} {cl : Nat → Nat} {wt : Nat → Nat → Bool} {row : Option Nat} {K : Act → World → Prop}
structure OkayT (ops : Array Oper) (cl : Nat → Nat) (wt : Nat → Nat → Bool) : Prop where
  sel : ∀ (j : Nat) (o : Oper) cs b, ops[j]? = some o → o.op ≠ .select cs b
  way : ∀ (j : Nat) (o : Oper) (i : Nat), ops[j]? = some o → wt j i = true → ∃ e, e ∈ o.after ∧ Region.binds .any e = true ∧ (e.on = i ∨ wt e.on i = true)
  lt : ∀ (j : Nat) (o : Oper) (e : Edge), ops[j]? = some o → e ∈ o.after → Region.binds .any e = true → e.on < j
  pair : ∀ (i j : Nat) (oi oj : Oper), i < j → ops[i]? = some oi → ops[j]? = some oj → wt j i = false → (¬ (cl i = 0 ∨ cl i = 3) ∧ ¬ (cl j = 0 ∨ cl j = 3)) ∨ (oi.apart ops oj = true ∧ (cl i = 3 ∨ cl j = 3 ∨ (cl i = 0 ∧ cl j ≤ 1) ∨ (cl j = 0 ∧ cl i ≤ 1)))
/-- What a read and another operation that may come in either order share: nothing. -/
theorem OkayT.both (ok : OkayT ops cl wt) {r j : Nat} {or oj : Oper} (hr : ops[r]? = some or) (hj : ops[j]? = some oj) (hne : r ≠ j) (h1 : wt r j = false) (h2 : wt j r = false) (hc : cl r = 0 ∨ cl r = 3) :
    ((∀ d, or.dst = some d → d ∉ oj.looksAt ops) ∧ (∀ d, or.dst = some d → oj.dst ≠ some d) ∧ (∀ d, oj.dst = some d → d ∉ or.looksAt ops)) ∧ (cl r = 3 ∨ (cl r = 0 ∧ (cl j = 3 ∨ cl j ≤ 1))) := by
  rcases Nat.lt_or_gt_of_ne hne with hlt | hlt
  · rcases ok.pair r j or oj hlt hr hj h2 with h | ⟨h, hh⟩
    · exact absurd hc h.1
    · refine ⟨Oper.apart_spec h, ?_⟩
      rcases hc with hc | hc
      · right; refine ⟨hc, ?_⟩; omega
      · exact .inl hc
  · rcases ok.pair j r oj or hlt hj hr h1 with h | ⟨h, hh⟩
    · exact absurd hc h.2
    · obtain ⟨p1, p2, p3⟩ := Oper.apart_spec h
      refine ⟨⟨p3, fun d hd he => p2 d he hd, p1⟩, ?_⟩
      rcases hc with hc | hc
      · right; refine ⟨hc, ?_⟩; omega
      · exact .inl hc
theorem Avail.erase {L : List Nat} {j r : Nat} (h : Avail wt L j) : Avail wt (L.erase r) j := fun i hi => h i (List.mem_of_mem_erase hi)
theorem gx_trans {row : Option Nat} {a b c : World} (h : GX row a b) (k : GX row b c) : GX row a c := grownBy_trans h k
theorem front_rdT (ok : OkayT ops cl wt) {j : Nat} {oj : Oper} (hj : ops[j]? = some oj) (hcj : cl j = 0 ∨ cl j = 3) :
    ∀ (n : Nat) (L : List Nat) (a : Act) (w : World), L.length = n + 1 → L.Nodup → j ∈ L → Avail wt L j → RT P Z ops cl wt row K (n + 1) L a w →
    ∃ v, (Region.wanted oj (yielded ops a.tmps) = true → ∀ w1, cl j = 3 ∨ GX row w w1 → (execOp a.eval oj).run P w1 = .ok (.value v) w1) ∧
      (Region.wanted oj (yielded ops a.tmps) = false → v = undef) ∧ RT P Z ops cl wt row K n (L.erase j) (a.put oj.dst v) w := by
  intro n
  induction n with
  | zero =>
    intro L a w hn nd hm hav h
    obtain ⟨x, rfl⟩ : ∃ x, L = [x] := List.length_eq_one_iff.1 hn
    obtain rfl : j = x := List.mem_singleton.1 hm
    rcases h with ⟨r, hr, hra, hc, o, ho, v, h1, h2, h3⟩ | ⟨hno, _⟩
    · obtain rfl : r = j := List.mem_singleton.1 hr
      obtain rfl : o = oj := Option.some.inj (ho.symm.trans hj)
      exact ⟨v, h1, h2, h3⟩
    · exact absurd hcj (hno j hm hav)
  | succ n ih =>
    intro L a w hn nd hm hav h
    rcases h with ⟨r, hr, hra, hc, o, ho, u, h1, h2, h3⟩ | ⟨hno, _⟩
    · by_cases hrj : r = j
      · subst hrj
        obtain rfl : o = oj := Option.some.inj (ho.symm.trans hj)
        exact ⟨u, h1, h2, h3⟩
      · obtain ⟨⟨p1, p2, p3⟩, _⟩ := ok.both ho hj hrj (hra j hm) (hav r hr) hc
        have evj : ∀ v, execOp (a.put o.dst v).eval oj = execOp a.eval oj := fun v => execOp_put (ops := ops) oj (fun cs b => ok.sel j oj cs b hj) a o.dst v p1
        have waj : ∀ v, Region.wanted oj (yielded ops (a.put o.dst v).tmps) = Region.wanted oj (yielded ops a.tmps) := fun v => wanted_put oj a o.dst v p1
        have evi : ∀ v, execOp (a.put oj.dst v).eval o = execOp a.eval o := fun v => execOp_put (ops := ops) o (fun cs b => ok.sel r o cs b ho) a oj.dst v p3
        have wai : ∀ v, Region.wanted o (yielded ops (a.put oj.dst v).tmps) = Region.wanted o (yielded ops a.tmps) := fun v => wanted_put o a oj.dst v p3
        have hmj : j ∈ L.erase r := nd.mem_erase_iff.2 ⟨fun h => hrj h.symm, hm⟩
        have hmr : r ∈ L.erase j := nd.mem_erase_iff.2 ⟨hrj, hr⟩
        obtain ⟨v, k1, k2, k3⟩ := ih (L.erase r) _ w (by rw [List.length_erase_of_mem hr]; omega) (nd.erase r) hmj hav.erase h3
        rw [waj] at k1 k2
        rw [evj] at k1
        refine ⟨v, k1, k2, .inl ⟨r, hmr, hra.erase, hc, o, ho, u, ?_, ?_, ?_⟩⟩
        · rw [wai, evi]; exact h1
        · rw [wai]; exact h2
        · rw [List.erase_comm, ← Act.put_comm a u v p2]; exact k3
    · exact absurd hcj (hno j hm hav)
theorem front_effT (hZs : ∀ ch (a : Act) d v w, Z ch (a.put d v) w → Z ch a w) (ok : OkayT ops cl wt) {j : Nat} {oj : Oper} (hj : ops[j]? = some oj) (hcj : ¬ (cl j = 0 ∨ cl j = 3)) :
    ∀ (n : Nat) (L : List Nat) (a : Act) (w : World), L.length = n + 1 → L.Nodup → j ∈ L → Avail wt L j → RT P Z ops cl wt row K (n + 1) L a w →
    if Region.wanted oj (yielded ops a.tmps) = true then EffQ P Z row (cl j == 1) oj a w (fun a' w' => RT P Z ops cl wt row K n (L.erase j) a' w')
    else RT P Z ops cl wt row K n (L.erase j) (a.put oj.dst undef) w := by
  intro n
  induction n with
  | zero =>
    intro L a w hn nd hm hav h
    obtain ⟨x, rfl⟩ : ∃ x, L = [x] := List.length_eq_one_iff.1 hn
    obtain rfl : j = x := List.mem_singleton.1 hm
    rcases h with ⟨r, hr, hra, hc, _⟩ | ⟨_, hall⟩
    · obtain rfl : r = j := List.mem_singleton.1 hr
      exact absurd hc hcj
    · obtain ⟨o, ho, hb⟩ := hall j hm hav
      obtain rfl : o = oj := Option.some.inj (ho.symm.trans hj)
      exact hb
  | succ n ih =>
    intro L a w hn nd hm hav h
    rcases h with ⟨r, hr, hra, hc, o, ho, u, h1, h2, h3⟩ | ⟨_, hall⟩
    · have hrj : r ≠ j := fun e => hcj (e ▸ hc)
      obtain ⟨⟨p1, p2, p3⟩, hq⟩ := ok.both ho hj hrj (hra j hm) (hav r hr) hc
      have evj : ∀ v, execOp (a.put o.dst v).eval oj = execOp a.eval oj := fun v => execOp_put (ops := ops) oj (fun cs b => ok.sel j oj cs b hj) a o.dst v p1
      have waj : ∀ v, Region.wanted oj (yielded ops (a.put o.dst v).tmps) = Region.wanted oj (yielded ops a.tmps) := fun v => wanted_put oj a o.dst v p1
      have evi : ∀ v, execOp (a.put oj.dst v).eval o = execOp a.eval o := fun v => execOp_put (ops := ops) o (fun cs b => ok.sel r o cs b ho) a oj.dst v p3
      have wai : ∀ v, Region.wanted o (yielded ops (a.put oj.dst v).tmps) = Region.wanted o (yielded ops a.tmps) := fun v => wanted_put o a oj.dst v p3
      have hmj : j ∈ L.erase r := nd.mem_erase_iff.2 ⟨fun h => hrj h.symm, hm⟩
      have hmr : r ∈ L.erase j := nd.mem_erase_iff.2 ⟨hrj, hr⟩
      have k := ih (L.erase r) _ w (by rw [List.length_erase_of_mem hr]; omega) (nd.erase r) hmj hav.erase h3
      rw [waj] at k
      have back : ∀ x w', (cl j = 1 → GX row w w') → RT P Z ops cl wt row K n ((L.erase r).erase j) ((a.put o.dst u).put oj.dst x) w' → RT P Z ops cl wt row K (n + 1) (L.erase j) (a.put oj.dst x) w' := by
        intro x w' hg hk
        refine .inl ⟨r, hmr, hra.erase, hc, o, ho, u, ?_, ?_, ?_⟩
        · rw [wai, evi]
          intro hw w1 hg1
          refine h1 hw w1 ?_
          rcases hg1 with hg1 | hg1
          · exact .inl hg1
          · rcases hq with hq | ⟨_, hq⟩
            · exact .inl hq
            · refine .inr (gx_trans (hg ?_) hg1)
              have : ¬ cl j = 0 := fun e => hcj (.inl e)
              have : ¬ cl j = 3 := fun e => hcj (.inr e)
              omega
        · rw [wai]; exact h2
        · rw [List.erase_comm, ← Act.put_comm a u x p2]; exact hk
      by_cases hwj : Region.wanted oj (yielded ops a.tmps) = true
      · rw [if_pos hwj] at k ⊢
        exact k.turn (evj u).symm (fun ch w' h => hZs _ _ _ _ _ h) fun x w' hg hk => back x w' (fun h => hg (by simp [h])) hk
      · rw [if_neg hwj] at k ⊢
        exact back _ _ (fun _ => GX.refl _ _) k
    · obtain ⟨o, ho, hb⟩ := hall j hm hav
      obtain rfl : o = oj := Option.some.inj (ho.symm.trans hj)
      exact hb
theorem Left.waitsT (ok : OkayT ops cl wt) {L : List Nat} {listed : Array Bool} (hL : Left ops L listed) :
    ∀ (n j : Nat) (oj : Oper), j ≤ n → ops[j]? = some oj → (∀ e ∈ oj.after, Region.binds .any e = true → e.on ∉ L) → ∀ i ∈ L, wt j i = false := by
  intro n
  induction n with
  | zero =>
    intro j oj hjn hj _ i _
    cases hw : wt j i with
    | false => rfl
    | true =>
      obtain ⟨e, he, hb, _⟩ := ok.way j oj i hj hw
      have := ok.lt j oj e hj he hb
      omega
  | succ n ih =>
    intro j oj hjn hj hall i hi
    cases hw : wt j i with
    | false => rfl
    | true =>
      obtain ⟨e, he, hb, hh⟩ := ok.way j oj i hj hw
      have hlt := ok.lt j oj e hj he hb
      have hnot := hall e he hb
      rcases hh with rfl | hh
      · exact absurd hi hnot
      · have hes : e.on < ops.size := by have := (Array.getElem?_eq_some_iff.1 hj).1; omega
        have hoe : ops[e.on]? = some ops[e.on] := Array.getElem?_eq_getElem hes
        have := ih e.on _ (by omega) hoe (hL.closed e.on _ hoe hnot) i hi
        rw [this] at hh; cases hh
theorem any_of_RT {ρ : Option Nat} (hZs : ∀ ch (a : Act) d v w, Z ch (a.put d v) w → Z ch a w) (ok : OkayT ops cl wt) {Q : Exit → Act → World → Prop} (hQ : ∀ a w, K a w → Q .normal a w) (hZ : ∀ ch a w, Z ch a w → Q (.panic ch) a w) :
    ∀ (n : Nat) (L : List Nat) (listed : Array Bool) (a : Act) (w : World), L.length = n → Left ops L listed → RT P Z ops cl wt row K n L a w → wpAnyIn (WF ρ) 0 P .any ops Q n listed a w := by
  intro n
  induction n with
  | zero =>
    intro L listed a w hn hL h
    obtain rfl : L = [] := List.eq_nil_of_length_eq_zero hn
    refine ⟨?_, hQ _ _ h.2⟩
    refine List.eq_nil_iff_forall_not_mem.2 fun j hj => ?_
    obtain ⟨h0, o, ho, _⟩ := mem_ready.1 hj
    have := (hL.mem j).2 ⟨(Array.getElem?_eq_some_iff.1 ho).1, h0⟩
    cases this
  | succ n ih =>
    intro L listed a w hn hL h
    have nd : L.Nodup := hL.sorted.imp (fun h => Nat.ne_of_lt h)
    have inL : ∀ j, j ∈ Region.ready .any ops listed → ∃ oj, ops[j]? = some oj ∧ j ∈ L ∧ ∀ e ∈ oj.after, Region.binds .any e = true → e.on ∉ L := by
      intro j hj
      obtain ⟨h0, oj, ho, hall⟩ := mem_ready.1 hj
      have hjs := (Array.getElem?_eq_some_iff.1 ho).1
      refine ⟨oj, ho, (hL.mem j).2 ⟨hjs, h0⟩, fun e he hb hm => ?_⟩
      have h1 := hall e he hb
      obtain ⟨h2, h3⟩ := (hL.mem e.on).1 hm
      have h4 : e.on < listed.size := by rw [hL.size]; exact h2
      simp [h4] at h1 h3
      rw [h1] at h3; cases h3
    refine ⟨fun h0 => ?_, fun j hj => ?_⟩
    · exfalso
      match L, hn, hL with
      | i :: rest, _, hL =>
        have him := (hL.mem i).1 List.mem_cons_self
        have hoi : ops[i]? = some ops[i] := Array.getElem?_eq_getElem him.1
        have : i ∈ Region.ready .any ops listed := by
          refine mem_ready.2 ⟨him.2, _, hoi, fun e he hb => ?_⟩
          have hlt := ok.lt i _ e hoi he hb
          have hno : e.on ∉ i :: rest := by
            intro hm
            rcases List.mem_cons.1 hm with hm | hm
            · omega
            · have := (List.pairwise_cons.1 hL.sorted).1 _ hm; omega
          have hes : e.on < listed.size := by rw [hL.size]; omega
          cases hl : listed.getD e.on true with
          | false => exact absurd ((hL.mem e.on).2 ⟨by rw [← hL.size]; exact hes, hl⟩) hno
          | true => simpa [hes] using hl
        rw [h0] at this; cases this
    · obtain ⟨oj, hoj, hjL, hall⟩ := inL j hj
      have hws : ∀ i ∈ L, wt j i = false := hL.waitsT ok j j oj (Nat.le_refl _) hoj hall
      have hL' := hL.step hoj hall
      have hlen : (L.erase j).length = n := by rw [List.length_erase_of_mem hjL]; omega
      unfold wpOpIn
      simp only [hoj]
      by_cases hc : cl j = 0 ∨ cl j = 3
      · obtain ⟨v, h1, h2, h3⟩ := front_rdT ok hoj hc n L a w hn nd hjL hws h
        have hnext := ih (L.erase j) _ (a.put oj.dst v) w hlen hL' h3
        by_cases hwj : Region.wanted oj (yielded ops a.tmps) = true
        · rw [if_pos hwj]
          have hr := h1 hwj w (.inr (GX.refl _ _))
          refine ⟨fun _ _ => trivial, ?_⟩
          rw [semAt_of hr (fun d h => by cases h), hr]
          exact hnext
        · rw [if_neg hwj]
          have := h2 (by simpa using hwj)
          subst this
          exact ⟨fun _ _ => trivial, hnext⟩
      · have h1 := front_effT hZs ok hoj hc n L a w hn nd hjL hws h
        by_cases hwj : Region.wanted oj (yielded ops a.tmps) = true
        · rw [if_pos hwj] at h1 ⊢
          refine EffQ.wpIn (Z := Z) (gr := cl j == 1) (row := row) ?_ (fun ch w' h => hZ _ _ _ h)
          exact h1.turn rfl (fun _ _ h => h) fun v w' _ hk => ih (L.erase j) _ _ w' hlen hL' hk
        · rw [if_neg hwj] at h1 ⊢
          exact ⟨fun _ _ => trivial, ih (L.erase j) _ _ w hlen hL' h1⟩
theorem wpIn_drawT {ρ : Option Nat} (hZs : ∀ ch (a : Act) d v w, Z ch (a.put d v) w → Z ch a w) (ok : OkayT ops cl wt) {id : Nat} {Q : Exit → Act → World → Prop} (hZ : ∀ ch a w, Z ch a w → Q (.panic ch) a w) {a : Act} {w : World} (hm : P.follows .mixedOrders = true)
    (h : RT P Z ops cl wt row (fun a w => Q .normal a w) ops.size (List.range ops.size) a w.drew) : (Code.region id ops true).wpIn (WF ρ) 0 P Q a w := by
  refine wpIn_region_any hm ?_
  have := any_of_RT (Q := Q) (ρ := ρ) hZs ok (fun _ _ h => h) hZ ops.size (List.range ops.size) (Array.replicate ops.size false) a w.drew (by simp) (left_start ops) h
  simpa using this
theorem wp_drawT (ok : OkayT ops cl wt) {id : Nat} {Q : Exit → Act → World → Prop} {a : Act} {w : World} (hm : P.follows .mixedOrders = true)
    (h : RT P NoP ops cl wt row (fun a w => Q .normal a w) ops.size (List.range ops.size) a w.drew) : (Code.region id ops true).wp P Q a w :=
  wpIn_wide.1 (wpIn_drawT (ρ := none) (fun _ _ _ _ _ h => h) ok (fun _ _ _ h => h.elim) hm h)
end

/-! a look at the region's text -/
def lookT (ops : Array Oper) (cl : List Nat) (ms : List Nat) (E : List (Nat × Oper × Nat)) (k : Nat) (o : Oper) : Bool :=
  noSel o && o.after.toList.all (fun e => !Region.binds .any e || Nat.blt e.on k) && Nat.beq (ms.getD k 0) (maskOf ms o.after.toList) &&
  E.all (fun p => (ms.getD k 0).testBit p.1 || (!(Nat.beq p.2.2 0 || Nat.beq p.2.2 3) && !(Nat.beq (clOf cl k) 0 || Nat.beq (clOf cl k) 3)) || (p.2.1.apart ops o && (Nat.beq p.2.2 3 || Nat.beq (clOf cl k) 3 || (Nat.beq p.2.2 0 && Nat.ble (clOf cl k) 1) || (Nat.beq (clOf cl k) 0 && Nat.ble p.2.2 1))))
def lookFromT (ops : Array Oper) (cl : List Nat) (ms : List Nat) : List (Nat × Oper × Nat) → Nat → List Oper → Bool
  | _, _, [] => true
  | E, k, o :: rest => lookT ops cl ms E k o && lookFromT ops cl ms ((k, o, clOf cl k) :: E) (k + 1) rest
def okT (l : List Oper) (cl : List Nat) (ms : List Nat) : Bool := lookFromT l.toArray cl ms [] 0 l && Nat.ble ms.length l.length
theorem lookFromT_spec (ops : Array Oper) (cl : List Nat) (ms : List Nat) : ∀ (l : List Oper) (E : List (Nat × Oper × Nat)) (k : Nat),
    (∀ j, l[j]? = ops[k + j]?) → (∀ i, i < k → ∃ oi, ops[i]? = some oi ∧ (i, oi, clOf cl i) ∈ E) → lookFromT ops cl ms E k l = true →
    ∀ j oj, k ≤ j → ops[j]? = some oj → ∃ E', (∀ i, i < j → ∃ oi, ops[i]? = some oi ∧ (i, oi, clOf cl i) ∈ E') ∧ lookT ops cl ms E' j oj = true
  | [], _, k, hl, _, _ => by
    intro j oj hkj hj
    have := hl (j - k)
    rw [show k + (j - k) = j by omega, hj] at this
    simp at this
  | o :: rest, E, k, hl, hE, h => by
    intro j oj hkj hj
    unfold lookFromT at h
    rw [Bool.and_eq_true] at h
    have h0 : ops[k]? = some o := by simpa using (hl 0).symm
    by_cases hjk : j = k
    · subst hjk
      obtain rfl : o = oj := Option.some.inj (h0.symm.trans hj)
      exact ⟨E, hE, h.1⟩
    · refine lookFromT_spec ops cl ms rest ((k, o, clOf cl k) :: E) (k + 1) (fun j => by have := hl (j + 1); simpa [Nat.add_assoc, Nat.add_comm 1 j] using this) ?_ h.2 j oj (by omega) hj
      intro i hi
      by_cases hik : i = k
      · subst hik
        exact ⟨o, h0, List.mem_cons_self⟩
      · obtain ⟨oi, h1, h2⟩ := hE i (by omega)
        exact ⟨oi, h1, List.mem_cons_of_mem _ h2⟩
theorem okayT_of {l : List Oper} {cl : List Nat} {ms : List Nat} (h : okT l cl ms = true) : OkayT l.toArray (clOf cl) (wtOf ms) := by
  unfold okT at h
  rw [Bool.and_eq_true] at h
  obtain ⟨h, hml⟩ := h
  have S := lookFromT_spec l.toArray cl ms l [] 0 (by simp) (fun i hi => absurd hi (by omega)) h
  have at_ : ∀ j oj, l.toArray[j]? = some oj → ∃ E', (∀ i, i < j → ∃ oi, l.toArray[i]? = some oi ∧ (i, oi, clOf cl i) ∈ E') ∧ lookT l.toArray cl ms E' j oj = true := fun j oj hj => S j oj (Nat.zero_le _) hj
  refine ⟨?_, ?_, ?_, ?_⟩
  · intro j o cs b hj heq
    obtain ⟨E', _, hh⟩ := at_ j o hj
    simp [lookT, noSel, heq] at hh
  · intro j o i hj hw
    obtain ⟨E', _, hh⟩ := at_ j o hj
    simp only [lookT, Bool.and_eq_true] at hh
    have hm := Nat.eq_of_beq_eq_true hh.1.2
    unfold wtOf at hw
    rw [hm] at hw
    obtain ⟨e, h1, h2⟩ := mask_spec ms i _ hw
    exact ⟨e, Array.mem_toList_iff.1 h1, h2⟩
  · intro j o e hj he hb
    obtain ⟨E', _, hh⟩ := at_ j o hj
    simp only [lookT, Bool.and_eq_true, List.all_eq_true, Array.mem_toList_iff, Bool.or_eq_true, Bool.not_eq_true'] at hh
    rcases hh.1.1.2 e he with h1 | h1
    · rw [hb] at h1; cases h1
    · exact Nat.le_of_ble_eq_true h1
  · intro i j oi oj hij hi hj hw
    obtain ⟨E', hE, hh⟩ := at_ j oj hj
    simp only [lookT, Bool.and_eq_true, List.all_eq_true] at hh
    obtain ⟨oi', h1, h2⟩ := hE i hij
    obtain rfl : oi' = oi := Option.some.inj (h1.symm.trans hi)
    have h3 := hh.2 _ h2
    unfold wtOf at hw
    dsimp only at h3
    rw [hw] at h3
    have e : ∀ (a b : Nat), Nat.beq a b = true ↔ a = b := fun a b => ⟨Nat.eq_of_beq_eq_true, fun h => by subst h; exact Nat.beq_refl a⟩
    have e' : ∀ (a b : Nat), Nat.ble a b = true ↔ a ≤ b := fun a b => ⟨Nat.le_of_ble_eq_true, Nat.ble_eq_true_of_le⟩
    simp only [Bool.false_or, Bool.or_eq_true, Bool.and_eq_true, Bool.not_eq_true', ← Bool.not_eq_true, e, e'] at h3
    rcases h3 with h3 | ⟨ha, h3⟩
    · exact .inl ⟨h3.1, h3.2⟩
    · refine .inr ⟨ha, ?_⟩
      rcases h3 with ((h3 | h3) | h3) | h3
      · exact .inl h3
      · exact .inr (.inl h3)
      · exact .inr (.inr (.inl h3))
      · exact .inr (.inr (.inr h3))
/-! the steps -/
def isRdB (cl : List Nat) (j : Nat) : Bool := Nat.beq (clOf cl j) 0 || Nat.beq (clOf cl j) 3
def availB (ms : List Nat) (L : List Nat) (j : Nat) : Bool := L.all fun i => !(wtOf ms j i)
def candB (cl ms L : List Nat) : List Nat := L.filter fun j => availB ms L j
theorem avail_iff (ms : List Nat) (L : List Nat) (j : Nat) : availB ms L j = true ↔ Avail (wtOf ms) L j := by
  unfold availB Avail; simp [List.all_eq_true]
theorem isRdB_iff (cl : List Nat) (j : Nat) : isRdB cl j = true ↔ (clOf cl j = 0 ∨ clOf cl j = 3) := by
  unfold isRdB; rw [Bool.or_eq_true]
  exact ⟨fun h => h.imp Nat.eq_of_beq_eq_true Nat.eq_of_beq_eq_true, fun h => h.imp (fun e => by rw [e]; rfl) (fun e => by rw [e]; rfl)⟩
def ST (P : Program) (Z : List PanicEntry → Act → World → Prop) (ops : List Oper) (cl ms : List Nat) (row : Option Nat) (n : Nat) (K : Act → World → Prop) (m : Nat) (L : List Nat) (σ : List Ent) (w : World) : Prop :=
  ∀ a, Kn n σ a → RT P Z ops.toArray (clOf cl) (wtOf ms) row K m L a w
section
variable {P : Program} {Z : List PanicEntry → Act → World → Prop} {ops : List Oper} {cl ms : List Nat} {row : Option Nat} {n : Nat} {K : Act → World → Prop} {m : Nat} {L L' : List Nat} {σ : List Ent} {w : World} {d : Nat} {op : Op} {ty : TypeId} {pos : String} {after : Array Edge} {v : Value}
theorem st_nil (h : ∀ a, Kn n σ a → K a w) : ST P Z ops cl ms row n K 0 [] σ w := fun a ha => ⟨rfl, h a ha⟩
theorem st_sub (τ : List Ent) (hs : Sub τ σ) (h : ST P Z ops cl ms row n K m L τ w) : ST P Z ops cl ms row n K m L σ w := fun a ha => h a (ha.sub hs)
theorem st_rd (r : Nat) (hr : ops.toArray[r]? = some ⟨some d, op, ty, pos, after, none⟩) (hb : (L.contains r && availB ms L r && Nat.beq (clOf cl r) 0 && Nat.blt d n) = true) (hL : L.erase r = L')
    (hv : ∀ w1, GX row w w1 → Rd P n σ True w1 op ty v) (h : ST P Z ops cl ms row n K m L' ((d, True, v) :: σ) w) : ST P Z ops cl ms row n K (m + 1) L σ w := fun a ha => by
  simp only [Bool.and_eq_true] at hb
  obtain ⟨⟨⟨h1, h2⟩, h3⟩, h4⟩ := hb
  refine .inl ⟨r, by simpa using h1, (avail_iff ms L r).1 h2, .inl (Nat.eq_of_beq_eq_true h3), _, hr, v, fun _ w1 hg => ?_, (fun hn => by cases hn), hL ▸ h _ (ha.put h4 (fun _ => rfl) (fun hn => absurd trivial hn))⟩
  rcases hg with hg | hg
  · rw [Nat.eq_of_beq_eq_true h3] at hg; cases hg
  · exact hv w1 hg _ _ _ _ a ha trivial w1 (G.refl _)
theorem st_pu (r : Nat) (hr : ops.toArray[r]? = some ⟨some d, op, ty, pos, after, none⟩) (hb : (L.contains r && availB ms L r && Nat.beq (clOf cl r) 3 && Nat.blt d n) = true) (hL : L.erase r = L')
    (hv : ∀ wb, Rd P n σ True wb op ty v) (h : ST P Z ops cl ms row n K m L' ((d, True, v) :: σ) w) : ST P Z ops cl ms row n K (m + 1) L σ w := fun a ha => by
  simp only [Bool.and_eq_true] at hb
  obtain ⟨⟨⟨h1, h2⟩, h3⟩, h4⟩ := hb
  exact .inl ⟨r, by simpa using h1, (avail_iff ms L r).1 h2, .inr (Nat.eq_of_beq_eq_true h3), _, hr, v, fun _ w1 hg => hv w1 _ _ _ _ a ha trivial w1 (G.refl _), (fun hn => by cases hn), hL ▸ h _ (ha.put h4 (fun _ => rfl) (fun hn => absurd trivial hn))⟩
open Classical in
open Classical in
/-- One effect in its turn. -/
def STE (P : Program) (Z : List PanicEntry → Act → World → Prop) (ops : List Oper) (cl ms : List Nat) (row : Option Nat) (n : Nat) (K : Act → World → Prop) (m : Nat) (L : List Nat) (σ : List Ent) (w : World) (j : Nat) : Prop :=
  ∀ a, Kn n σ a → ∃ o, ops.toArray[j]? = some o ∧ if Region.wanted o (yielded ops.toArray a.tmps) = true then EffQ P Z row (clOf cl j == 1) o a w (fun a' w' => RT P Z ops.toArray (clOf cl) (wtOf ms) row K m (L.erase j) a' w')
    else RT P Z ops.toArray (clOf cl) (wtOf ms) row K m (L.erase j) (a.put o.dst undef) w
theorem st_eff (cs : List Nat) (hb : L.all (fun r => !(availB ms L r && isRdB cl r)) = true) (hc : candB cl ms L = cs) (h : ∀ j ∈ cs, STE P Z ops cl ms row n K m L σ w j) : ST P Z ops cl ms row n K (m + 1) L σ w := fun a ha => by
  refine .inr ⟨fun r hr hav hrd => ?_, fun j hj hav => ?_⟩
  · have := List.all_eq_true.1 hb r hr
    rw [(avail_iff ms L r).2 hav, (isRdB_iff cl r).2 hrd] at this; cases this
  · exact h j (by rw [← hc]; exact List.mem_filter.2 ⟨hj, (avail_iff ms L j).2 hav⟩) a ha
theorem st_eff1 (j : Nat) (hb : L.all (fun r => !(availB ms L r && isRdB cl r)) = true) (hc : candB cl ms L = [j]) (h : STE P Z ops cl ms row n K m L σ w j) : ST P Z ops cl ms row n K (m + 1) L σ w :=
  st_eff [j] hb hc fun i hi => by rw [List.mem_singleton.1 hi]; exact h
theorem st_eff2 (j k : Nat) (hb : L.all (fun r => !(availB ms L r && isRdB cl r)) = true) (hc : candB cl ms L = [j, k]) (h : STE P Z ops cl ms row n K m L σ w j) (h' : STE P Z ops cl ms row n K m L σ w k) : ST P Z ops cl ms row n K (m + 1) L σ w :=
  st_eff [j, k] hb hc fun i hi => by
    rcases List.mem_cons.1 hi with rfl | hi
    · exact h
    · rw [List.mem_singleton.1 hi]; exact h'
/-- Out of a step of the other engine. -/
theorem ste_of_sr {j : Nat} {o : Oper} (cl2 : List Nat) (ho : ops.toArray[j]? = some o) (hL : L.erase j = L') (hc : (Nat.beq (clOf cl2 j) 0 || Nat.beq (clOf cl2 j) 3) = false)
    (h : SR P Z ops cl2 [] w n (fun a' w' => GX row w w' ∧ RT P Z ops.toArray (clOf cl) (wtOf ms) row K m L' a' w') j [o] σ w) : STE P Z ops cl ms row n K m L σ w j := fun a ha => by
  subst hL
  have h1 := h (fun i o' h => by cases i with
    | zero => injection h with h; subst h; exact ho
    | succ i => cases h) a ha
  · have hc' : ¬ (clOf cl2 j = 0 ∨ clOf cl2 j = 3) := by
      intro e; rw [Bool.or_eq_false_iff] at hc
      rcases e with e | e <;> rw [e] at hc <;> simp at hc
    obtain ⟨o', ho', h2⟩ := h1
    obtain rfl : o' = o := Option.some.inj (ho'.symm.trans ho)
    rw [if_neg hc'] at h2
    refine ⟨o', ho, ?_⟩
    by_cases hw : Region.wanted o' (yielded ops.toArray a.tmps) = true
    · rw [if_pos hw] at h2 ⊢
      rcases h2 with ⟨v, w', hr, _, hn⟩ | ⟨w', hr, _, hn⟩ | ⟨f, args, hr, hcl⟩ | ⟨l, f, tmps, asg, body, hr, hcl⟩
      · exact .inl ⟨v, w', hr, fun _ => hn.1, hn.2⟩
      · exact .inr (.inl ⟨w', hr, fun _ => hn.1, hn.2⟩)
      · refine .inr (.inr (.inl ⟨f, args, hr, Calls.mono hcl fun e w' h => ?_⟩))
        rcases h with ⟨v, he, _, hn⟩ | h
        · exact .inl ⟨v, he, fun _ => hn.1, hn.2⟩
        · exact .inr h
      · exact .inr (.inr (.inr ⟨l, f, tmps, asg, body, hr, RoundIn.mono hcl fun e w' ⟨v, he, _, hn⟩ => ⟨v, he, fun _ => hn.1, hn.2⟩⟩))
    · rw [if_neg hw] at h2 ⊢
      exact h2.2
theorem ste2_of_sr {j : Nat} {o : Oper} (cl2 : List Nat) (ho : ops.toArray[j]? = some o) (hL : L.erase j = L') (hc : (Nat.beq (clOf cl2 j) 0 || Nat.beq (clOf cl2 j) 3) = false) (h1c : Nat.beq (clOf cl j) 1 = false)
    (h : SR P Z ops cl2 [] w n (fun a' w' => RT P Z ops.toArray (clOf cl) (wtOf ms) row K m L' a' w') j [o] σ w) : STE P Z ops cl ms row n K m L σ w j := fun a ha => by
  subst hL
  have h1 := h (fun i o' h => by cases i with
    | zero => injection h with h; subst h; exact ho
    | succ i => cases h) a ha
  have hc' : ¬ (clOf cl2 j = 0 ∨ clOf cl2 j = 3) := by
    intro e; rw [Bool.or_eq_false_iff] at hc
    rcases e with e | e <;> rw [e] at hc <;> simp at hc
  have h1c' : (clOf cl j == 1) = false := by
    cases h : (clOf cl j == 1) with
    | false => rfl
    | true => rw [eq_of_beq h] at h1c; cases h1c
  obtain ⟨o', ho', h2⟩ := h1
  obtain rfl : o' = o := Option.some.inj (ho'.symm.trans ho)
  rw [if_neg hc'] at h2
  refine ⟨o', ho, ?_⟩
  rw [h1c']
  by_cases hw : Region.wanted o' (yielded ops.toArray a.tmps) = true
  · rw [if_pos hw] at h2 ⊢
    rcases h2 with ⟨v, w', hr, _, hn⟩ | ⟨w', hr, _, hn⟩ | ⟨f, args, hr, hcl⟩ | ⟨l, f, tmps, asg, body, hr, hcl⟩
    · exact .inl ⟨v, w', hr, (fun h => by cases h), hn⟩
    · exact .inr (.inl ⟨w', hr, (fun h => by cases h), hn⟩)
    · refine .inr (.inr (.inl ⟨f, args, hr, Calls.mono hcl fun e w' h => ?_⟩))
      rcases h with ⟨v, he, _, hn⟩ | h
      · exact .inl ⟨v, he, (fun h => by cases h), hn⟩
      · exact .inr h
    · exact .inr (.inr (.inr ⟨l, f, tmps, asg, body, hr, RoundIn.mono hcl fun e w' ⟨v, he, _, hn⟩ => ⟨v, he, (fun h => by cases h), hn⟩⟩))
  · rw [if_neg hw] at h2 ⊢
    exact h2
theorem sr_nilT2 {cl2 : List Nat} {W0 : World} {k : Nat} (h : ST P Z ops cl ms row n K m L σ w) : SR P Z ops cl2 [] W0 n (fun a' w' => RT P Z ops.toArray (clOf cl) (wtOf ms) row K m L a' w') k [] σ w := sr_nil h
theorem sr_nilT {cl2 : List Nat} {W0 w0 : World} {k : Nat} (hg : GX row w0 w) (h : ST P Z ops cl ms row n K m L σ w) : SR P Z ops cl2 [] W0 n (fun a' w' => GX row w0 w' ∧ RT P Z ops.toArray (clOf cl) (wtOf ms) row K m L a' w') k [] σ w := sr_nil fun a ha => ⟨hg, h a ha⟩
end
section
variable {P : Program} {n : Nat} {N T : Act → World → Prop} {X : List (Nat × (Act → World → Prop))} {σ : List Ent} {w : World}
theorem sc_drawT {id : Nat} {l : List Oper} (row : Option Nat) (cl : List Nat) (ms : List Nat) (hm : P.follows .mixedOrders = true) (hok : okT l cl ms = true) (L : List Nat) (hL : List.range l.length = L)
    (h : ST P NoP l cl ms row n N l.length L σ w.drew) : SC P n (.region id l.toArray true) N X T σ w := fun a ha => by
  have h1 := h a ha
  subst hL
  have h2 : RT P NoP l.toArray (clOf cl) (wtOf ms) row (fun a w => (Qof N X T) .normal a w) l.toArray.size (List.range l.toArray.size) a w.drew := by simpa [Qof] using h1
  exact wp_drawT (okayT_of hok) hm h2
end
end Go.Rk
namespace Go.Rk
open Go Go.RowKit
set_option linter.unusedVariables false
def nestFs (P : Program) : Nat → List Field → Option (List (Option TypeId × List Nat))
  | _, [] => some []
  | k, f :: fs => if Nat.beq f.offset k && f.name != "_" then match flatKind P f.type with
      | some a => (nestFs P (k + 1) fs).map fun r => (none, [a]) :: r
      | none => match tyFlat P f.type, tyAgg P f.type with
        | some ks, some z => if Nat.beq z ks.length then (nestFs P (k + ks.length) fs).map fun r => (some f.type, ks) :: r else none
        | _, _ => none
    else none
def tyNest (P : Program) (t : TypeId) : Option (List (Option TypeId × List Nat)) := match P.underlying t with
  | some (.struct fs) => if P.stoodInHeld t = false ∧ P.eqGuardType P.depth t = false then nestFs P 0 fs.toList else none
  | _ => none
def eqN : List (Option TypeId × List Nat) → List Value → List Value → Option Bool
  | [], [], [] => some true
  | [], _, _ => none
  | (_, ks) :: r, l, l' => match eqL ks (l.take ks.length) (l'.take ks.length) with
    | some b => match eqN r (l.drop ks.length) (l'.drop ks.length) with
      | some c => some (b && c)
      | none => none
    | none => none
section
variable {P : Program} {n : Nat} {σ : List Ent} {c : Prop} {wb : World} {ty : TypeId} {v : Value}
end
end Go.Rk
namespace Go.Rk
open Go
@[reducible] noncomputable def PP : Program := Go.Proofs.Tryd.prog
theorem mix : PP.follows .mixedOrders = true := by kernel_rfl
@[reducible] def fn_l03_SyntaxDepth : Nat := 3
theorem func_l03_SyntaxDepth : PP.funcs[3]? = some Go.Proofs.Tryd.f3 := Go.Proofs.Tryd.func3
@[reducible] def fn_l03_awake : Nat := 4
theorem go_l03_awake : goFn PP 4 = true := by kernel_rfl
theorem func_l03_awake : PP.funcs[4]? = some Go.Proofs.Tryd.f4 := Go.Proofs.Tryd.func4
@[reducible] def fn_l03_sample : Nat := 5
theorem go_l03_sample : goFn PP 5 = true := by kernel_rfl
theorem func_l03_sample : PP.funcs[5]? = some Go.Proofs.Tryd.f5 := Go.Proofs.Tryd.func5
@[reducible] def fn_syntax_Valid : Nat := 6
theorem go_syntax_Valid : goFn PP 6 = true := by kernel_rfl
theorem func_syntax_Valid : PP.funcs[6]? = some Go.Proofs.Tryd.f6 := Go.Proofs.Tryd.func6
@[reducible] def fn_syntax_Walk : Nat := 7
theorem go_syntax_Walk : goFn PP 7 = true := by kernel_rfl
theorem func_syntax_Walk : PP.funcs[7]? = some Go.Proofs.Tryd.f7 := Go.Proofs.Tryd.func7
@[reducible] def fn_syntax_Count : Nat := 8
theorem go_syntax_Count : goFn PP 8 = true := by kernel_rfl
theorem func_syntax_Count : PP.funcs[8]? = some Go.Proofs.Tryd.f8 := Go.Proofs.Tryd.func8
@[reducible] def fn_syntax_Equal : Nat := 9
theorem go_syntax_Equal : goFn PP 9 = true := by kernel_rfl
theorem func_syntax_Equal : PP.funcs[9]? = some Go.Proofs.Tryd.f9 := Go.Proofs.Tryd.func9
@[reducible] def fn_syntax_Strip : Nat := 10
theorem go_syntax_Strip : goFn PP 10 = true := by kernel_rfl
theorem func_syntax_Strip : PP.funcs[10]? = some Go.Proofs.Tryd.f10 := Go.Proofs.Tryd.func10
@[reducible] def fn_syntax_Print : Nat := 11
theorem go_syntax_Print : goFn PP 11 = true := by kernel_rfl
theorem func_syntax_Print : PP.funcs[11]? = some Go.Proofs.Tryd.f11 := Go.Proofs.Tryd.func11
@[reducible] def fn_l03_name : Nat := 12
theorem go_l03_name : goFn PP 12 = true := by kernel_rfl
theorem func_l03_name : PP.funcs[12]? = some Go.Proofs.Tryd.f12 := Go.Proofs.Tryd.func12
@[reducible] def fn_l03_typed : Nat := 13
theorem go_l03_typed : goFn PP 13 = true := by kernel_rfl
theorem func_l03_typed : PP.funcs[13]? = some Go.Proofs.Tryd.f13 := Go.Proofs.Tryd.func13
@[reducible] def fn_syntax_permitted : Nat := 14
theorem go_syntax_permitted : goFn PP 14 = true := by kernel_rfl
theorem func_syntax_permitted : PP.funcs[14]? = some Go.Proofs.Tryd.f14 := Go.Proofs.Tryd.func14
@[reducible] def fn_syntax_Walk_1 : Nat := 15
theorem go_syntax_Walk_1 : goFn PP 15 = true := by kernel_rfl
theorem func_syntax_Walk_1 : PP.funcs[15]? = some Go.Proofs.Tryd.f15 := Go.Proofs.Tryd.func15
@[reducible] def fn_syntax_Walk_1_1 : Nat := 16
theorem go_syntax_Walk_1_1 : goFn PP 16 = true := by kernel_rfl
theorem func_syntax_Walk_1_1 : PP.funcs[16]? = some Go.Proofs.Tryd.f16 := Go.Proofs.Tryd.func16
@[reducible] def fn_syntax_printer_stmt : Nat := 17
theorem go_syntax_printer_stmt : goFn PP 17 = true := by kernel_rfl
theorem func_syntax_printer_stmt : PP.funcs[17]? = some Go.Proofs.Tryd.f17 := Go.Proofs.Tryd.func17
@[reducible] def fn_syntax_printer_write : Nat := 18
theorem go_syntax_printer_write : goFn PP 18 = true := by kernel_rfl
theorem func_syntax_printer_write : PP.funcs[18]? = some Go.Proofs.Tryd.f18 := Go.Proofs.Tryd.func18
@[reducible] def fn_strings_Builder_String : Nat := 19
theorem go_strings_Builder_String : goFn PP 19 = true := by kernel_rfl
@[reducible] def fn_syntax_text : Nat := 20
theorem go_syntax_text : goFn PP 20 = true := by kernel_rfl
theorem func_syntax_text : PP.funcs[20]? = some Go.Proofs.Tryd.f20 := Go.Proofs.Tryd.func20
@[reducible] def fn_syntax_form : Nat := 21
theorem go_syntax_form : goFn PP 21 = true := by kernel_rfl
theorem func_syntax_form : PP.funcs[21]? = some Go.Proofs.Tryd.f21 := Go.Proofs.Tryd.func21
@[reducible] def fn_syntax_printer_declaration : Nat := 22
theorem go_syntax_printer_declaration : goFn PP 22 = true := by kernel_rfl
theorem func_syntax_printer_declaration : PP.funcs[22]? = some Go.Proofs.Tryd.f22 := Go.Proofs.Tryd.func22
@[reducible] def fn_syntax_printer_compound : Nat := 23
theorem go_syntax_printer_compound : goFn PP 23 = true := by kernel_rfl
theorem func_syntax_printer_compound : PP.funcs[23]? = some Go.Proofs.Tryd.f23 := Go.Proofs.Tryd.func23
@[reducible] def fn_syntax_printer_simple : Nat := 24
theorem go_syntax_printer_simple : goFn PP 24 = true := by kernel_rfl
theorem func_syntax_printer_simple : PP.funcs[24]? = some Go.Proofs.Tryd.f24 := Go.Proofs.Tryd.func24
@[reducible] def fn_strings_Builder_WriteString : Nat := 25
theorem go_strings_Builder_WriteString : goFn PP 25 = true := by kernel_rfl
theorem func_strings_Builder_WriteString : PP.funcs[25]? = some Go.Proofs.Tryd.f25 := Go.Proofs.Tryd.func25
@[reducible] def fn_syntax_name : Nat := 26
theorem go_syntax_name : goFn PP 26 = true := by kernel_rfl
theorem func_syntax_name : PP.funcs[26]? = some Go.Proofs.Tryd.f26 := Go.Proofs.Tryd.func26
@[reducible] def fn_syntax_among : Nat := 27
theorem go_syntax_among : goFn PP 27 = true := by kernel_rfl
theorem func_syntax_among : PP.funcs[27]? = some Go.Proofs.Tryd.f27 := Go.Proofs.Tryd.func27
@[reducible] def fn_syntax_every : Nat := 28
theorem go_syntax_every : goFn PP 28 = true := by kernel_rfl
theorem func_syntax_every : PP.funcs[28]? = some Go.Proofs.Tryd.f28 := Go.Proofs.Tryd.func28
@[reducible] def fn_syntax_kids : Nat := 29
theorem go_syntax_kids : goFn PP 29 = true := by kernel_rfl
theorem func_syntax_kids : PP.funcs[29]? = some Go.Proofs.Tryd.f29 := Go.Proofs.Tryd.func29
@[reducible] def fn_syntax_typed : Nat := 30
theorem go_syntax_typed : goFn PP 30 = true := by kernel_rfl
theorem func_syntax_typed : PP.funcs[30]? = some Go.Proofs.Tryd.f30 := Go.Proofs.Tryd.func30
@[reducible] def fn_syntax_either : Nat := 31
theorem go_syntax_either : goFn PP 31 = true := by kernel_rfl
theorem func_syntax_either : PP.funcs[31]? = some Go.Proofs.Tryd.f31 := Go.Proofs.Tryd.func31
@[reducible] def fn_syntax_expression : Nat := 32
theorem go_syntax_expression : goFn PP 32 = true := by kernel_rfl
theorem func_syntax_expression : PP.funcs[32]? = some Go.Proofs.Tryd.f32 := Go.Proofs.Tryd.func32
@[reducible] def fn_syntax_statement : Nat := 33
theorem go_syntax_statement : goFn PP 33 = true := by kernel_rfl
theorem func_syntax_statement : PP.funcs[33]? = some Go.Proofs.Tryd.f33 := Go.Proofs.Tryd.func33
@[reducible] def fn_syntax_communication : Nat := 34
theorem go_syntax_communication : goFn PP 34 = true := by kernel_rfl
theorem func_syntax_communication : PP.funcs[34]? = some Go.Proofs.Tryd.f34 := Go.Proofs.Tryd.func34
@[reducible] def fn_syntax_printer_lines : Nat := 35
theorem go_syntax_printer_lines : goFn PP 35 = true := by kernel_rfl
theorem func_syntax_printer_lines : PP.funcs[35]? = some Go.Proofs.Tryd.f35 := Go.Proofs.Tryd.func35
@[reducible] def fn_syntax_printer_line : Nat := 36
theorem go_syntax_printer_line : goFn PP 36 = true := by kernel_rfl
theorem func_syntax_printer_line : PP.funcs[36]? = some Go.Proofs.Tryd.f36 := Go.Proofs.Tryd.func36
@[reducible] def fn_syntax_printer_typ : Nat := 37
theorem go_syntax_printer_typ : goFn PP 37 = true := by kernel_rfl
theorem func_syntax_printer_typ : PP.funcs[37]? = some Go.Proofs.Tryd.f37 := Go.Proofs.Tryd.func37
@[reducible] def fn_syntax_printer_block : Nat := 38
theorem go_syntax_printer_block : goFn PP 38 = true := by kernel_rfl
theorem func_syntax_printer_block : PP.funcs[38]? = some Go.Proofs.Tryd.f38 := Go.Proofs.Tryd.func38
@[reducible] def fn_syntax_printer_expr : Nat := 39
theorem go_syntax_printer_expr : goFn PP 39 = true := by kernel_rfl
theorem func_syntax_printer_expr : PP.funcs[39]? = some Go.Proofs.Tryd.f39 := Go.Proofs.Tryd.func39
@[reducible] def fn_syntax_printer_pair : Nat := 40
theorem go_syntax_printer_pair : goFn PP 40 = true := by kernel_rfl
theorem func_syntax_printer_pair : PP.funcs[40]? = some Go.Proofs.Tryd.f40 := Go.Proofs.Tryd.func40
@[reducible] def fn_syntax_printer_list : Nat := 41
theorem go_syntax_printer_list : goFn PP 41 = true := by kernel_rfl
theorem func_syntax_printer_list : PP.funcs[41]? = some Go.Proofs.Tryd.f41 := Go.Proofs.Tryd.func41
@[reducible] def fn_strings_Builder_copyCheck : Nat := 42
theorem go_strings_Builder_copyCheck : goFn PP 42 = true := by kernel_rfl
theorem func_strings_Builder_copyCheck : PP.funcs[42]? = some Go.Proofs.Tryd.f42 := Go.Proofs.Tryd.func42
@[reducible] def fn_scan_Scan : Nat := 43
theorem go_scan_Scan : goFn PP 43 = true := by kernel_rfl
theorem func_scan_Scan : PP.funcs[43]? = some Go.Proofs.Tryd.f43 := Go.Proofs.Tryd.func43
@[reducible] def fn_syntax_among_1 : Nat := 44
theorem go_syntax_among_1 : goFn PP 44 = true := by kernel_rfl
theorem func_syntax_among_1 : PP.funcs[44]? = some Go.Proofs.Tryd.f44 := Go.Proofs.Tryd.func44
@[reducible] def fn_syntax_either_1 : Nat := 45
theorem go_syntax_either_1 : goFn PP 45 = true := by kernel_rfl
theorem func_syntax_either_1 : PP.funcs[45]? = some Go.Proofs.Tryd.f45 := Go.Proofs.Tryd.func45
@[reducible] def fn_strings_Builder_WriteByte : Nat := 46
theorem go_strings_Builder_WriteByte : goFn PP 46 = true := by kernel_rfl
theorem func_strings_Builder_WriteByte : PP.funcs[46]? = some Go.Proofs.Tryd.f46 := Go.Proofs.Tryd.func46
@[reducible] def fn_syntax_printer_primary : Nat := 47
theorem go_syntax_printer_primary : goFn PP 47 = true := by kernel_rfl
theorem func_syntax_printer_primary : PP.funcs[47]? = some Go.Proofs.Tryd.f47 := Go.Proofs.Tryd.func47
@[reducible] def fn_syntax_printer_inner : Nat := 48
theorem go_syntax_printer_inner : goFn PP 48 = true := by kernel_rfl
theorem func_syntax_printer_inner : PP.funcs[48]? = some Go.Proofs.Tryd.f48 := Go.Proofs.Tryd.func48
@[reducible] def fn_strconv_Itoa : Nat := 49
theorem go_strconv_Itoa : goFn PP 49 = true := by kernel_rfl
@[reducible] def fn_strconv_FormatBool : Nat := 50
theorem go_strconv_FormatBool : goFn PP 50 = true := by kernel_rfl
theorem func_strconv_FormatBool : PP.funcs[50]? = some Go.Proofs.Tryd.f50 := Go.Proofs.Tryd.func50
@[reducible] def fn_scan_all : Nat := 52
theorem go_scan_all : goFn PP 52 = true := by kernel_rfl
theorem func_scan_all : PP.funcs[52]? = some Go.Proofs.Tryd.f52 := Go.Proofs.Tryd.func52
@[reducible] def fn_scan_scanner_next : Nat := 55
theorem go_scan_scanner_next : goFn PP 55 = true := by kernel_rfl
theorem func_scan_scanner_next : PP.funcs[55]? = some Go.Proofs.Tryd.f55 := Go.Proofs.Tryd.func55
@[reducible] def fn_scan_scanner_newline : Nat := 57
theorem go_scan_scanner_newline : goFn PP 57 = true := by kernel_rfl
theorem func_scan_scanner_newline : PP.funcs[57]? = some Go.Proofs.Tryd.f57 := Go.Proofs.Tryd.func57
@[reducible] def fn_strings_HasPrefix : Nat := 58
theorem go_strings_HasPrefix : goFn PP 58 = true := by kernel_rfl
theorem func_strings_HasPrefix : PP.funcs[58]? = some Go.Proofs.Tryd.f58 := Go.Proofs.Tryd.func58
@[reducible] def fn_scan_scanner_run : Nat := 59
theorem go_scan_scanner_run : goFn PP 59 = true := by kernel_rfl
theorem func_scan_scanner_run : PP.funcs[59]? = some Go.Proofs.Tryd.f59 := Go.Proofs.Tryd.func59
@[reducible] def fn_scan_scanner_next_1 : Nat := 60
theorem go_scan_scanner_next_1 : goFn PP 60 = true := by kernel_rfl
theorem func_scan_scanner_next_1 : PP.funcs[60]? = some Go.Proofs.Tryd.f60 := Go.Proofs.Tryd.func60
@[reducible] def fn_scan_letter : Nat := 61
theorem go_scan_letter : goFn PP 61 = true := by kernel_rfl
theorem func_scan_letter : PP.funcs[61]? = some Go.Proofs.Tryd.f61 := Go.Proofs.Tryd.func61
@[reducible] def fn_scan_scanner_next_2 : Nat := 62
theorem go_scan_scanner_next_2 : goFn PP 62 = true := by kernel_rfl
theorem func_scan_scanner_next_2 : PP.funcs[62]? = some Go.Proofs.Tryd.f62 := Go.Proofs.Tryd.func62
@[reducible] def fn_scan_digit : Nat := 63
theorem go_scan_digit : goFn PP 63 = true := by kernel_rfl
theorem func_scan_digit : PP.funcs[63]? = some Go.Proofs.Tryd.f63 := Go.Proofs.Tryd.func63
@[reducible] def fn_scan_Keyword : Nat := 64
theorem go_scan_Keyword : goFn PP 64 = true := by kernel_rfl
theorem func_scan_Keyword : PP.funcs[64]? = some Go.Proofs.Tryd.f64 := Go.Proofs.Tryd.func64
@[reducible] def fn_scan_scanner_put : Nat := 65
theorem go_scan_scanner_put : goFn PP 65 = true := by kernel_rfl
theorem func_scan_scanner_put : PP.funcs[65]? = some Go.Proofs.Tryd.f65 := Go.Proofs.Tryd.func65
@[reducible] def fn_strconv_ParseInt : Nat := 66
theorem go_strconv_ParseInt : goFn PP 66 = true := by kernel_rfl
@[reducible] def fn_scan_ending : Nat := 71
theorem go_scan_ending : goFn PP 71 = true := by kernel_rfl
theorem func_scan_ending : PP.funcs[71]? = some Go.Proofs.Tryd.f71 := Go.Proofs.Tryd.func71
@[reducible] def fn_internal_stringslite_HasPrefix : Nat := 72
theorem go_internal_stringslite_HasPrefix : goFn PP 72 = true := by kernel_rfl
theorem func_internal_stringslite_HasPrefix : PP.funcs[72]? = some Go.Proofs.Tryd.f72 := Go.Proofs.Tryd.func72
@[reducible] def fn_strconv_toError : Nat := 74
@[reducible] def fn_strconv_syntaxError : Nat := 81
@[reducible] def fn_strconv_rangeError : Nat := 82
@[reducible] def fn_strconv_baseError : Nat := 83
@[reducible] def fn_strconv_bitSizeError : Nat := 84
@[reducible] def fn_internal_stringslite_Clone : Nat := 89
@[reducible] def ty_int64 : Nat := 2
@[reducible] def ty_int : Nat := 3
theorem sz_int : tySize PP 3 = some 1 := by kernel_rfl
theorem ze_int : zeroOf PP 3 = some (.int .i64 0) := by kernel_rfl
theorem one_int : tyOne PP 3 = true := by kernel_rfl
theorem ik_int : tyInt PP 3 = some .i64 := by kernel_rfl
@[reducible] def ty_bool : Nat := 4
theorem sz_bool : tySize PP 4 = some 1 := by kernel_rfl
theorem ze_bool : zeroOf PP 4 = some (.bool false) := by kernel_rfl
theorem one_bool : tyOne PP 4 = true := by kernel_rfl
theorem und_bool : PP.underlying 4 = some .bool := by kernel_rfl
@[reducible] def ty_uint8 : Nat := 5
theorem ze_uint8 : zeroOf PP 5 = some (.int .u8 0) := by kernel_rfl
theorem ik_uint8 : tyInt PP 5 = some .u8 := by kernel_rfl
@[reducible] def ty_string : Nat := 9
theorem ze_string : zeroOf PP 9 = some (.string ⟨#[]⟩) := by kernel_rfl
theorem one_string : tyOne PP 9 = true := by kernel_rfl
theorem str_string : tyStr PP 9 = true := by kernel_rfl
@[reducible] def ty_sl_api_Node : Nat := 23
theorem sz_sl_api_Node : tySize PP 23 = some 1 := by kernel_rfl
theorem one_sl_api_Node : tyOne PP 23 = true := by kernel_rfl
theorem el_sl_api_Node : tyElem PP 23 = some (27, 9, 104) := by kernel_rfl
@[reducible] def ty_api_Type : Nat := 25
@[reducible] def ty_api_Node : Nat := 27
theorem sz_api_Node : tySize PP 27 = some 9 := by kernel_rfl
theorem ze_api_Node : zeroOf PP 27 = some (.agg #[.int .i64 0, .string ⟨#[]⟩, .int .i64 0, .int .i64 0, .slice none 0 0, .int .i64 0, .string ⟨#[]⟩, .int .i64 0, .int .i64 0]) := by kernel_rfl
theorem agg_api_Node : tyAgg PP 27 = some 9 := by kernel_rfl
theorem fo_api_Node_0 : fieldOff PP 27 0 = some 0 := by kernel_rfl
theorem fo_api_Node_1 : fieldOff PP 27 1 = some 1 := by kernel_rfl
theorem fo_api_Node_2 : fieldOff PP 27 2 = some 2 := by kernel_rfl
theorem fo_api_Node_4 : fieldOff PP 27 4 = some 4 := by kernel_rfl
theorem pl_api_Node : structPlaces PP 27 = some [(0, 1), (1, 1), (2, 1), (3, 1), (4, 1), (5, 2), (7, 1), (8, 1)] := by kernel_rfl
@[reducible] def ty_func_api_Node_bool : Nat := 29
theorem sz_func_api_Node_bool : tySize PP 29 = some 1 := by kernel_rfl
theorem ze_func_api_Node_bool : zeroOf PP 29 = some (.nilFunc) := by kernel_rfl
theorem one_func_api_Node_bool : tyOne PP 29 = true := by kernel_rfl
@[reducible] def ty_func_uint8_bool : Nat := 30
@[reducible] def ty_func_func_api_Node_bool : Nat := 31
@[reducible] def ty_iter_Seq_interleave_api_Node : Nat := 32
@[reducible] def ty_p_strings_Builder : Nat := 40
theorem sz_p_strings_Builder : tySize PP 40 = some 1 := by kernel_rfl
theorem one_p_strings_Builder : tyOne PP 40 = true := by kernel_rfl
theorem pt_p_strings_Builder : tyPtr PP 40 = true := by kernel_rfl
@[reducible] def ty_sl_uint8 : Nat := 41
theorem sz_sl_uint8 : tySize PP 41 = some 1 := by kernel_rfl
theorem one_sl_uint8 : tyOne PP 41 = true := by kernel_rfl
theorem el_sl_uint8 : tyElem PP 41 = some (5, 1, 1) := by kernel_rfl
@[reducible] def ty_strings_Builder : Nat := 43
theorem fo_strings_Builder_0 : fieldOff PP 43 0 = some 0 := by kernel_rfl
theorem fo_strings_Builder_1 : fieldOff PP 43 1 = some 1 := by kernel_rfl
@[reducible] def ty_syntax_printer : Nat := 45
theorem ze_syntax_printer : zeroOf PP 45 = some (.agg #[.pointer none, .slice none 0 0, .int .i64 0]) := by kernel_rfl
theorem fo_syntax_printer_0 : fieldOff PP 45 0 = some 0 := by kernel_rfl
theorem fo_syntax_printer_1 : fieldOff PP 45 1 = some 2 := by kernel_rfl
@[reducible] def ty_p_syntax_printer : Nat := 49
@[reducible] def ty_sl_string : Nat := 50
theorem el_sl_string : tyElem PP 50 = some (9, 1, 16) := by kernel_rfl
@[reducible] def ty_error : Nat := 52
theorem if_error : PP.isIface 52 = true := by kernel_rfl
@[reducible] def ty_p_uint8 : Nat := 55
@[reducible] def ty_func_int_bool : Nat := 57
theorem sz_func_int_bool : tySize PP 57 = some 1 := by kernel_rfl
theorem ze_func_int_bool : zeroOf PP 57 = some (.nilFunc) := by kernel_rfl
theorem one_func_int_bool : tyOne PP 57 = true := by kernel_rfl
@[reducible] def ty_sl_api_Token : Nat := 64
theorem sz_sl_api_Token : tySize PP 64 = some 1 := by kernel_rfl
theorem one_sl_api_Token : tyOne PP 64 = true := by kernel_rfl
theorem el_sl_api_Token : tyElem PP 64 = some (69, 3, 32) := by kernel_rfl
@[reducible] def ty_api_Errno : Nat := 65
@[reducible] def ty_api_Token : Nat := 69
theorem sz_api_Token : tySize PP 69 = some 3 := by kernel_rfl
theorem ze_api_Token : zeroOf PP 69 = some (.agg #[.int .i64 0, .string ⟨#[]⟩, .int .i64 0]) := by kernel_rfl
theorem agg_api_Token : tyAgg PP 69 = some 3 := by kernel_rfl
theorem fo_api_Token_0 : fieldOff PP 69 0 = some 0 := by kernel_rfl
theorem fo_api_Token_1 : fieldOff PP 69 1 = some 1 := by kernel_rfl
theorem pl_api_Token : structPlaces PP 69 = some [(0, 1), (1, 1), (2, 1)] := by kernel_rfl
@[reducible] def ty_sl_int : Nat := 70
theorem one_sl_int : tyOne PP 70 = true := by kernel_rfl
theorem el_sl_int : tyElem PP 70 = some (3, 1, 8) := by kernel_rfl
@[reducible] def ty_sl_func_int_bool : Nat := 71
theorem el_sl_func_int_bool : tyElem PP 71 = some (57, 1, 8) := by kernel_rfl
@[reducible] def ty_unsafe_Pointer : Nat := 76
@[reducible] def ty_p_scan_scanner : Nat := 78
@[reducible] def ty_scan_scanner : Nat := 82
theorem ze_scan_scanner : zeroOf PP 82 = some (.agg #[.string ⟨#[]⟩, .int .i64 0, .slice none 0 0, .slice none 0 0]) := by kernel_rfl
theorem fo_scan_scanner_0 : fieldOff PP 82 0 = some 0 := by kernel_rfl
theorem fo_scan_scanner_1 : fieldOff PP 82 1 = some 1 := by kernel_rfl
theorem fo_scan_scanner_2 : fieldOff PP 82 2 = some 2 := by kernel_rfl
theorem fo_scan_scanner_3 : fieldOff PP 82 3 = some 3 := by kernel_rfl
theorem pl_scan_scanner : structPlaces PP 82 = some [(0, 1), (1, 1), (2, 1), (3, 1)] := by kernel_rfl
@[reducible] def ty_27_string : Nat := 90
theorem agg_27_string : tyAgg PP 90 = some 27 := by kernel_rfl
theorem ar_27_string : tyArr1 PP 90 = some 27 := by kernel_rfl
@[reducible] def ty_strconv_Error : Nat := 105
@[reducible] def ty_p_strconv_NumError : Nat := 108
@[reducible] def ty_strconv_NumError : Nat := 115
end Go.Rk
namespace Go.Rk
open Go
theorem bsimp : True := trivial
def letterB (c : Int) : Bool := (decide (97 ≤ c) && decide (c ≤ 122) || decide (65 ≤ c) && decide (c ≤ 90)) || decide (c = 95)
def digitB (c : Int) : Bool := decide (48 ≤ c) && decide (c ≤ 57)
theorem letter_ok (c : Int) (w : World) : Ret PP fn_scan_letter #[.int .u8 c] w fun v w' => v = .bool (letterB c) ∧ G w w' := by
  have g := G.refl w
  refine ret_of_sc (m := 21) func_scan_letter rfl rfl [(0, True, _)] (sub_cons rfl (sub_nil _)) ?_
  refine sc_seq fun K1 hK1 => ?_
  refine sc_text [3] ?_
  refine sr_pu rfl (fun _ => rd_assign ev_c) ?_
  refine sr_nil (hK1 _ _ ?_)
  refine sc_seq fun K2 hK2 => ?_
  refine sc_text [3, 3, 3, 3, 3, 3, 3, 3, 3, 3, 3, 3, 3, 3, 3, 3, 3, 3, 3] ?_
  refine sr_pu rfl (fun _ => rd_move (ev_t rfl)) ?_
  refine sr_pu rfl (fun _ => rd_ge (ev_t rfl) ev_c) ?_
  refine sr_pu rfl (fun _ => rd_move (ev_t rfl)) ?_
  refine sr_pug rfl rfl rfl (fun _ => rd_move (ev_t rfl)) ?_
  refine sr_pug rfl rfl rfl (fun _ => rd_le (ev_u rfl id) ev_c) ?_
  refine sr_pu rfl (fun _ => rd_pick_and (ev_t rfl) (ev_u rfl id)) ?_
  refine sr_pu rfl (fun _ => rd_move (ev_t rfl)) ?_
  refine sr_pug rfl rfl rfl (fun _ => rd_move (ev_t rfl)) ?_
  refine sr_pug rfl rfl rfl (fun _ => rd_ge (ev_u rfl id) ev_c) ?_
  refine sr_pug rfl rfl rfl (fun _ => rd_move (ev_u rfl id)) ?_
  refine sr_pug rfl rfl rfl (fun _ => rd_move (ev_t rfl)) ?_
  refine sr_pug rfl rfl rfl (fun _ => rd_le (ev_u rfl id) ev_c) ?_
  refine sr_pug rfl rfl rfl (fun _ => rd_pick_and (ev_u rfl id) (ev_u rfl id)) ?_
  refine sr_pu rfl (fun _ => rd_pick_or (ev_t rfl) (ev_u rfl id)) ?_
  refine sr_pu rfl (fun _ => rd_move (ev_t rfl)) ?_
  refine sr_pug rfl rfl rfl (fun _ => rd_move (ev_t rfl)) ?_
  refine sr_pug rfl rfl rfl (fun _ => rd_eq (ev_u rfl id) ev_c) ?_
  refine sr_pu rfl (fun _ => rd_pick_or (ev_t rfl) (ev_u rfl id)) ?_
  refine sr_pu rfl (fun _ => rd_assign (ev_t rfl)) ?_
  refine sr_sub [(2, _, _)] (sub_cons rfl (sub_nil _)) ?_
  refine sr_nil (hK2 _ _ ?_)
  refine sc_ret (t_ret1 rfl rfl ?_)
  exact ⟨rfl, g⟩
theorem digit_ok (c : Int) (w : World) : Ret PP fn_scan_digit #[.int .u8 c] w fun v w' => v = .bool (digitB c) ∧ G w w' := by
  have g := G.refl w
  refine ret_of_sc (m := 9) func_scan_digit rfl rfl [(0, True, _)] (sub_cons rfl (sub_nil _)) ?_
  refine sc_seq fun K1 hK1 => ?_
  refine sc_text [3] ?_
  refine sr_pu rfl (fun _ => rd_assign ev_c) ?_
  refine sr_nil (hK1 _ _ ?_)
  refine sc_seq fun K2 hK2 => ?_
  refine sc_text [3, 3, 3, 3, 3, 3, 3] ?_
  refine sr_pu rfl (fun _ => rd_move (ev_t rfl)) ?_
  refine sr_pu rfl (fun _ => rd_ge (ev_t rfl) ev_c) ?_
  refine sr_pu rfl (fun _ => rd_move (ev_t rfl)) ?_
  refine sr_pug rfl rfl rfl (fun _ => rd_move (ev_t rfl)) ?_
  refine sr_pug rfl rfl rfl (fun _ => rd_le (ev_u rfl id) ev_c) ?_
  refine sr_pu rfl (fun _ => rd_pick_and (ev_t rfl) (ev_u rfl id)) ?_
  refine sr_pu rfl (fun _ => rd_assign (ev_t rfl)) ?_
  refine sr_sub [(2, _, _)] (sub_cons rfl (sub_nil _)) ?_
  refine sr_nil (hK2 _ _ ?_)
  refine sc_ret (t_ret1 rfl rfl ?_)
  exact ⟨rfl, g⟩
theorem notlf_ok (c : Int) (w : World) : Ret PP fn_scan_scanner_next_1 #[.int .u8 c] w fun v w' => v = .bool (!decide (c = 10)) ∧ G w w' := by
  have g := G.refl w
  refine ret_of_sc (m := 5) func_scan_scanner_next_1 rfl rfl [(0, True, _)] (sub_cons rfl (sub_nil _)) ?_
  refine sc_seq fun K1 hK1 => ?_
  refine sc_text [3] ?_
  refine sr_pu rfl (fun _ => rd_assign ev_c) ?_
  refine sr_nil (hK1 _ _ ?_)
  refine sc_seq fun K2 hK2 => ?_
  refine sc_text [3, 3, 3] ?_
  refine sr_pu rfl (fun _ => rd_move (ev_t rfl)) ?_
  refine sr_pu rfl (fun _ => rd_ne (ev_t rfl) ev_c) ?_
  refine sr_pu rfl (fun _ => rd_assign (ev_t rfl)) ?_
  refine sr_sub [(2, _, _)] (sub_cons rfl (sub_nil _)) ?_
  refine sr_nil (hK2 _ _ ?_)
  refine sc_ret (t_ret1 rfl rfl ?_)
  exact ⟨rfl, g⟩
theorem alnum_ok (c : Int) (w : World) : Ret PP fn_scan_scanner_next_2 #[.int .u8 c] w fun v w' => v = .bool (letterB c || digitB c) ∧ G w w' := by
  have g := G.refl w
  refine ret_of_sc (m := 9) func_scan_scanner_next_2 rfl rfl [(0, True, _)] (sub_cons rfl (sub_nil _)) ?_
  refine sc_seq fun K1 hK1 => ?_
  refine sc_text [3] ?_
  refine sr_pu rfl (fun _ => rd_assign ev_c) ?_
  refine sr_nil (hK1 _ _ ?_)
  refine sc_seq fun K2 hK2 => ?_
  refine sc_text [3, 1, 3, 3, 1, 3, 3] ?_
  refine sr_pu rfl (fun _ => rd_move (ev_t rfl)) ?_
  refine sr_pure rfl (rc_call go_scan_letter ev_f (args_cons (ev_t rfl) (args_nil)) rfl) (letter_ok _ _) (fun w4 g4 => ?_)
  have g := g.trans (g4)
  refine sr_pu rfl (fun _ => rd_move (ev_t rfl)) ?_
  refine sr_pug rfl rfl rfl (fun _ => rd_move (ev_t rfl)) ?_
  refine sr_pureg rfl rfl rfl (fun _ => (rc_call go_scan_digit ev_f (args_cons (ev_u rfl id) (args_nil)) rfl)) (fun hc => digit_ok _ _) (fun w7 g7 => ?_)
  have g := g.trans (g7)
  refine sr_pu rfl (fun _ => rd_pick_or (ev_t rfl) (ev_u rfl id)) ?_
  refine sr_pu rfl (fun _ => rd_assign (ev_t rfl)) ?_
  refine sr_sub [(2, _, _)] (sub_cons rfl (sub_nil _)) ?_
  refine sr_nil (hK2 _ _ ?_)
  refine sc_ret (t_ret1 rfl rfl ?_)
  exact ⟨rfl, g⟩
def kws : List (List UInt8) := [[116, 121, 112, 101], [115, 116, 114, 117, 99, 116], [118, 97, 114], [102, 117, 110, 99], [105, 102], [101, 108, 115, 101], [102, 111, 114], [114, 101, 116, 117, 114, 110], [103, 111], [100, 101, 102, 101, 114], [115, 101, 108, 101, 99, 116], [99, 97, 115, 101], [100, 101, 102, 97, 117, 108, 116], [99, 104, 97, 110], [110, 101, 119], [109, 97, 107, 101], [108, 101, 110], [116, 114, 117, 101], [102, 97, 108, 115, 101], [110, 105, 108], [112, 114, 105, 110, 116], [99, 108, 111, 115, 101], [105, 110, 116], [98, 111, 111, 108], [109, 117, 116, 101, 120], [114, 119, 109, 117, 116, 101, 120], [103, 114, 111, 117, 112], [111, 110, 99, 101], [97, 116, 111, 109, 105, 99]]
def endw : List (List UInt8) := [[116, 114, 117, 101], [102, 97, 108, 115, 101], [110, 105, 108], [114, 101, 116, 117, 114, 110], [105, 110, 116], [98, 111, 111, 108], [109, 117, 116, 101, 120], [114, 119, 109, 117, 116, 101, 120], [103, 114, 111, 117, 112], [111, 110, 99, 101], [97, 116, 111, 109, 105, 99], [41], [93], [125]]
def inB (l : List (List UInt8)) (s : List UInt8) : Bool := l.any fun k => decide (s = k)
theorem keyword_ok (s : List UInt8) (w : World) : Ret PP fn_scan_Keyword #[Str s] w fun v w' => v = .bool (inB kws s) ∧ G w w' := by
  have g := G.refl w
  refine ret_of_sc (m := 34) func_scan_Keyword rfl rfl [(0, True, _)] (sub_cons rfl (sub_nil _)) ?_
  refine sc_seq fun K1 hK1 => ?_
  refine sc_text [3] ?_
  refine sr_pu rfl (fun _ => rd_assign ev_c) ?_
  refine sr_nil (hK1 _ _ ?_)
  refine sc_seq fun K2 hK2 => ?_
  refine sc_seq fun K3 hK3 => ?_
  refine sc_text [3] ?_
  refine sr_pu rfl (fun _ => rd_move (ev_t rfl)) ?_
  refine sr_sub [(2, _, _), (3, _, _)] (sub_cons rfl (sub_cons rfl (sub_nil _))) ?_
  refine sr_nil (hK3 _ _ ?_)
  refine sc_block ?_
  refine sc_seq fun K4 hK4 => ?_
  refine sc_seq fun K5 hK5 => ?_
  refine sc_text [3, 3] ?_
  refine sr_pu rfl (fun _ => rd_seq (ev_t rfl) ev_c) ?_
  refine sr_pu rfl (fun _ => rd_assign (ev_t rfl)) ?_
  refine sr_sub [(2, _, _), (3, _, _), (4, _, _)] (sub_cons rfl (sub_cons rfl (sub_cons rfl (sub_nil _)))) ?_
  refine sr_nil (hK5 _ _ ?_)
  refine' sc_or [(2, _, _)] (sub_cons rfl (sub_cons rfl (sub_nil _))) rfl (fun hb1 => ?y1) (hK4 _ _ ?n1)
  case y1 =>
   refine sc_seq fun K6 hK6 => ?_
   refine sc_text [3, 3] ?_
   refine sr_pu rfl (fun _ => rd_seq (ev_t rfl) ev_c) ?_
   refine sr_pu rfl (fun _ => rd_assign (ev_t rfl)) ?_
   refine sr_sub [(2, _, _), (3, _, _), (4, _, _)] (sub_cons rfl (sub_cons rfl (sub_cons rfl (sub_nil _)))) ?_
   refine sr_nil (hK6 _ _ ?_)
   refine' sc_or [(2, _, _)] (sub_cons rfl (sub_cons rfl (sub_nil _))) rfl (fun hb2 => ?y2) (fun a ha => ⟨ha, rfl⟩)
   case y2 =>
    refine sc_seq fun K7 hK7 => ?_
    refine sc_text [3, 3] ?_
    refine sr_pu rfl (fun _ => rd_seq (ev_t rfl) ev_c) ?_
    refine sr_pu rfl (fun _ => rd_assign (ev_t rfl)) ?_
    refine sr_sub [(2, _, _), (3, _, _), (4, _, _)] (sub_cons rfl (sub_cons rfl (sub_cons rfl (sub_nil _)))) ?_
    refine sr_nil (hK7 _ _ ?_)
    refine' sc_or [(2, _, _)] (sub_cons rfl (sub_cons rfl (sub_nil _))) rfl (fun hb3 => ?y3) (fun a ha => ⟨ha, rfl⟩)
    case y3 =>
     refine sc_seq fun K8 hK8 => ?_
     refine sc_text [3, 3] ?_
     refine sr_pu rfl (fun _ => rd_seq (ev_t rfl) ev_c) ?_
     refine sr_pu rfl (fun _ => rd_assign (ev_t rfl)) ?_
     refine sr_sub [(2, _, _), (3, _, _), (4, _, _)] (sub_cons rfl (sub_cons rfl (sub_cons rfl (sub_nil _)))) ?_
     refine sr_nil (hK8 _ _ ?_)
     refine' sc_or [(2, _, _)] (sub_cons rfl (sub_cons rfl (sub_nil _))) rfl (fun hb4 => ?y4) (fun a ha => ⟨ha, rfl⟩)
     case y4 =>
      refine sc_seq fun K9 hK9 => ?_
      refine sc_text [3, 3] ?_
      refine sr_pu rfl (fun _ => rd_seq (ev_t rfl) ev_c) ?_
      refine sr_pu rfl (fun _ => rd_assign (ev_t rfl)) ?_
      refine sr_sub [(2, _, _), (3, _, _), (4, _, _)] (sub_cons rfl (sub_cons rfl (sub_cons rfl (sub_nil _)))) ?_
      refine sr_nil (hK9 _ _ ?_)
      refine' sc_or [(2, _, _)] (sub_cons rfl (sub_cons rfl (sub_nil _))) rfl (fun hb5 => ?y5) (fun a ha => ⟨ha, rfl⟩)
      case y5 =>
       refine sc_seq fun K10 hK10 => ?_
       refine sc_text [3, 3] ?_
       refine sr_pu rfl (fun _ => rd_seq (ev_t rfl) ev_c) ?_
       refine sr_pu rfl (fun _ => rd_assign (ev_t rfl)) ?_
       refine sr_sub [(2, _, _), (3, _, _), (4, _, _)] (sub_cons rfl (sub_cons rfl (sub_cons rfl (sub_nil _)))) ?_
       refine sr_nil (hK10 _ _ ?_)
       refine' sc_or [(2, _, _)] (sub_cons rfl (sub_cons rfl (sub_nil _))) rfl (fun hb6 => ?y6) (fun a ha => ⟨ha, rfl⟩)
       case y6 =>
        refine sc_seq fun K11 hK11 => ?_
        refine sc_text [3, 3] ?_
        refine sr_pu rfl (fun _ => rd_seq (ev_t rfl) ev_c) ?_
        refine sr_pu rfl (fun _ => rd_assign (ev_t rfl)) ?_
        refine sr_sub [(2, _, _), (3, _, _), (4, _, _)] (sub_cons rfl (sub_cons rfl (sub_cons rfl (sub_nil _)))) ?_
        refine sr_nil (hK11 _ _ ?_)
        refine' sc_or [(2, _, _)] (sub_cons rfl (sub_cons rfl (sub_nil _))) rfl (fun hb7 => ?y7) (fun a ha => ⟨ha, rfl⟩)
        case y7 =>
         refine sc_seq fun K12 hK12 => ?_
         refine sc_text [3, 3] ?_
         refine sr_pu rfl (fun _ => rd_seq (ev_t rfl) ev_c) ?_
         refine sr_pu rfl (fun _ => rd_assign (ev_t rfl)) ?_
         refine sr_sub [(2, _, _), (3, _, _), (4, _, _)] (sub_cons rfl (sub_cons rfl (sub_cons rfl (sub_nil _)))) ?_
         refine sr_nil (hK12 _ _ ?_)
         refine' sc_or [(2, _, _)] (sub_cons rfl (sub_cons rfl (sub_nil _))) rfl (fun hb8 => ?y8) (fun a ha => ⟨ha, rfl⟩)
         case y8 =>
          refine sc_seq fun K13 hK13 => ?_
          refine sc_text [3, 3] ?_
          refine sr_pu rfl (fun _ => rd_seq (ev_t rfl) ev_c) ?_
          refine sr_pu rfl (fun _ => rd_assign (ev_t rfl)) ?_
          refine sr_sub [(2, _, _), (3, _, _), (4, _, _)] (sub_cons rfl (sub_cons rfl (sub_cons rfl (sub_nil _)))) ?_
          refine sr_nil (hK13 _ _ ?_)
          refine' sc_or [(2, _, _)] (sub_cons rfl (sub_cons rfl (sub_nil _))) rfl (fun hb9 => ?y9) (fun a ha => ⟨ha, rfl⟩)
          case y9 =>
           refine sc_seq fun K14 hK14 => ?_
           refine sc_text [3, 3] ?_
           refine sr_pu rfl (fun _ => rd_seq (ev_t rfl) ev_c) ?_
           refine sr_pu rfl (fun _ => rd_assign (ev_t rfl)) ?_
           refine sr_sub [(2, _, _), (3, _, _), (4, _, _)] (sub_cons rfl (sub_cons rfl (sub_cons rfl (sub_nil _)))) ?_
           refine sr_nil (hK14 _ _ ?_)
           refine' sc_or [(2, _, _)] (sub_cons rfl (sub_cons rfl (sub_nil _))) rfl (fun hb10 => ?y10) (fun a ha => ⟨ha, rfl⟩)
           case y10 =>
            refine sc_seq fun K15 hK15 => ?_
            refine sc_text [3, 3] ?_
            refine sr_pu rfl (fun _ => rd_seq (ev_t rfl) ev_c) ?_
            refine sr_pu rfl (fun _ => rd_assign (ev_t rfl)) ?_
            refine sr_sub [(2, _, _), (3, _, _), (4, _, _)] (sub_cons rfl (sub_cons rfl (sub_cons rfl (sub_nil _)))) ?_
            refine sr_nil (hK15 _ _ ?_)
            refine' sc_or [(2, _, _)] (sub_cons rfl (sub_cons rfl (sub_nil _))) rfl (fun hb11 => ?y11) (fun a ha => ⟨ha, rfl⟩)
            case y11 =>
             refine sc_seq fun K16 hK16 => ?_
             refine sc_text [3, 3] ?_
             refine sr_pu rfl (fun _ => rd_seq (ev_t rfl) ev_c) ?_
             refine sr_pu rfl (fun _ => rd_assign (ev_t rfl)) ?_
             refine sr_sub [(2, _, _), (3, _, _), (4, _, _)] (sub_cons rfl (sub_cons rfl (sub_cons rfl (sub_nil _)))) ?_
             refine sr_nil (hK16 _ _ ?_)
             refine' sc_or [(2, _, _)] (sub_cons rfl (sub_cons rfl (sub_nil _))) rfl (fun hb12 => ?y12) (fun a ha => ⟨ha, rfl⟩)
             case y12 =>
              refine sc_seq fun K17 hK17 => ?_
              refine sc_text [3, 3] ?_
              refine sr_pu rfl (fun _ => rd_seq (ev_t rfl) ev_c) ?_
              refine sr_pu rfl (fun _ => rd_assign (ev_t rfl)) ?_
              refine sr_sub [(2, _, _), (3, _, _), (4, _, _)] (sub_cons rfl (sub_cons rfl (sub_cons rfl (sub_nil _)))) ?_
              refine sr_nil (hK17 _ _ ?_)
              refine' sc_or [(2, _, _)] (sub_cons rfl (sub_cons rfl (sub_nil _))) rfl (fun hb13 => ?y13) (fun a ha => ⟨ha, rfl⟩)
              case y13 =>
               refine sc_seq fun K18 hK18 => ?_
               refine sc_text [3, 3] ?_
               refine sr_pu rfl (fun _ => rd_seq (ev_t rfl) ev_c) ?_
               refine sr_pu rfl (fun _ => rd_assign (ev_t rfl)) ?_
               refine sr_sub [(2, _, _), (3, _, _), (4, _, _)] (sub_cons rfl (sub_cons rfl (sub_cons rfl (sub_nil _)))) ?_
               refine sr_nil (hK18 _ _ ?_)
               refine' sc_or [(2, _, _)] (sub_cons rfl (sub_cons rfl (sub_nil _))) rfl (fun hb14 => ?y14) (fun a ha => ⟨ha, rfl⟩)
               case y14 =>
                refine sc_seq fun K19 hK19 => ?_
                refine sc_text [3, 3] ?_
                refine sr_pu rfl (fun _ => rd_seq (ev_t rfl) ev_c) ?_
                refine sr_pu rfl (fun _ => rd_assign (ev_t rfl)) ?_
                refine sr_sub [(2, _, _), (3, _, _), (4, _, _)] (sub_cons rfl (sub_cons rfl (sub_cons rfl (sub_nil _)))) ?_
                refine sr_nil (hK19 _ _ ?_)
                refine' sc_or [(2, _, _)] (sub_cons rfl (sub_cons rfl (sub_nil _))) rfl (fun hb15 => ?y15) (fun a ha => ⟨ha, rfl⟩)
                case y15 =>
                 refine sc_seq fun K20 hK20 => ?_
                 refine sc_text [3, 3] ?_
                 refine sr_pu rfl (fun _ => rd_seq (ev_t rfl) ev_c) ?_
                 refine sr_pu rfl (fun _ => rd_assign (ev_t rfl)) ?_
                 refine sr_sub [(2, _, _), (3, _, _), (4, _, _)] (sub_cons rfl (sub_cons rfl (sub_cons rfl (sub_nil _)))) ?_
                 refine sr_nil (hK20 _ _ ?_)
                 refine' sc_or [(2, _, _)] (sub_cons rfl (sub_cons rfl (sub_nil _))) rfl (fun hb16 => ?y16) (fun a ha => ⟨ha, rfl⟩)
                 case y16 =>
                  refine sc_seq fun K21 hK21 => ?_
                  refine sc_text [3, 3] ?_
                  refine sr_pu rfl (fun _ => rd_seq (ev_t rfl) ev_c) ?_
                  refine sr_pu rfl (fun _ => rd_assign (ev_t rfl)) ?_
                  refine sr_sub [(2, _, _), (3, _, _), (4, _, _)] (sub_cons rfl (sub_cons rfl (sub_cons rfl (sub_nil _)))) ?_
                  refine sr_nil (hK21 _ _ ?_)
                  refine' sc_or [(2, _, _)] (sub_cons rfl (sub_cons rfl (sub_nil _))) rfl (fun hb17 => ?y17) (fun a ha => ⟨ha, rfl⟩)
                  case y17 =>
                   refine sc_seq fun K22 hK22 => ?_
                   refine sc_text [3, 3] ?_
                   refine sr_pu rfl (fun _ => rd_seq (ev_t rfl) ev_c) ?_
                   refine sr_pu rfl (fun _ => rd_assign (ev_t rfl)) ?_
                   refine sr_sub [(2, _, _), (3, _, _), (4, _, _)] (sub_cons rfl (sub_cons rfl (sub_cons rfl (sub_nil _)))) ?_
                   refine sr_nil (hK22 _ _ ?_)
                   refine' sc_or [(2, _, _)] (sub_cons rfl (sub_cons rfl (sub_nil _))) rfl (fun hb18 => ?y18) (fun a ha => ⟨ha, rfl⟩)
                   case y18 =>
                    refine sc_seq fun K23 hK23 => ?_
                    refine sc_text [3, 3] ?_
                    refine sr_pu rfl (fun _ => rd_seq (ev_t rfl) ev_c) ?_
                    refine sr_pu rfl (fun _ => rd_assign (ev_t rfl)) ?_
                    refine sr_sub [(2, _, _), (3, _, _), (4, _, _)] (sub_cons rfl (sub_cons rfl (sub_cons rfl (sub_nil _)))) ?_
                    refine sr_nil (hK23 _ _ ?_)
                    refine' sc_or [(2, _, _)] (sub_cons rfl (sub_cons rfl (sub_nil _))) rfl (fun hb19 => ?y19) (fun a ha => ⟨ha, rfl⟩)
                    case y19 =>
                     refine sc_seq fun K24 hK24 => ?_
                     refine sc_text [3, 3] ?_
                     refine sr_pu rfl (fun _ => rd_seq (ev_t rfl) ev_c) ?_
                     refine sr_pu rfl (fun _ => rd_assign (ev_t rfl)) ?_
                     refine sr_sub [(2, _, _), (3, _, _), (4, _, _)] (sub_cons rfl (sub_cons rfl (sub_cons rfl (sub_nil _)))) ?_
                     refine sr_nil (hK24 _ _ ?_)
                     refine' sc_or [(2, _, _)] (sub_cons rfl (sub_cons rfl (sub_nil _))) rfl (fun hb20 => ?y20) (fun a ha => ⟨ha, rfl⟩)
                     case y20 =>
                      refine sc_seq fun K25 hK25 => ?_
                      refine sc_text [3, 3] ?_
                      refine sr_pu rfl (fun _ => rd_seq (ev_t rfl) ev_c) ?_
                      refine sr_pu rfl (fun _ => rd_assign (ev_t rfl)) ?_
                      refine sr_sub [(2, _, _), (3, _, _), (4, _, _)] (sub_cons rfl (sub_cons rfl (sub_cons rfl (sub_nil _)))) ?_
                      refine sr_nil (hK25 _ _ ?_)
                      refine' sc_or [(2, _, _)] (sub_cons rfl (sub_cons rfl (sub_nil _))) rfl (fun hb21 => ?y21) (fun a ha => ⟨ha, rfl⟩)
                      case y21 =>
                       refine sc_seq fun K26 hK26 => ?_
                       refine sc_text [3, 3] ?_
                       refine sr_pu rfl (fun _ => rd_seq (ev_t rfl) ev_c) ?_
                       refine sr_pu rfl (fun _ => rd_assign (ev_t rfl)) ?_
                       refine sr_sub [(2, _, _), (3, _, _), (4, _, _)] (sub_cons rfl (sub_cons rfl (sub_cons rfl (sub_nil _)))) ?_
                       refine sr_nil (hK26 _ _ ?_)
                       refine' sc_or [(2, _, _)] (sub_cons rfl (sub_cons rfl (sub_nil _))) rfl (fun hb22 => ?y22) (fun a ha => ⟨ha, rfl⟩)
                       case y22 =>
                        refine sc_seq fun K27 hK27 => ?_
                        refine sc_text [3, 3] ?_
                        refine sr_pu rfl (fun _ => rd_seq (ev_t rfl) ev_c) ?_
                        refine sr_pu rfl (fun _ => rd_assign (ev_t rfl)) ?_
                        refine sr_sub [(2, _, _), (3, _, _), (4, _, _)] (sub_cons rfl (sub_cons rfl (sub_cons rfl (sub_nil _)))) ?_
                        refine sr_nil (hK27 _ _ ?_)
                        refine' sc_or [(2, _, _)] (sub_cons rfl (sub_cons rfl (sub_nil _))) rfl (fun hb23 => ?y23) (fun a ha => ⟨ha, rfl⟩)
                        case y23 =>
                         refine sc_seq fun K28 hK28 => ?_
                         refine sc_text [3, 3] ?_
                         refine sr_pu rfl (fun _ => rd_seq (ev_t rfl) ev_c) ?_
                         refine sr_pu rfl (fun _ => rd_assign (ev_t rfl)) ?_
                         refine sr_sub [(2, _, _), (3, _, _), (4, _, _)] (sub_cons rfl (sub_cons rfl (sub_cons rfl (sub_nil _)))) ?_
                         refine sr_nil (hK28 _ _ ?_)
                         refine' sc_or [(2, _, _)] (sub_cons rfl (sub_cons rfl (sub_nil _))) rfl (fun hb24 => ?y24) (fun a ha => ⟨ha, rfl⟩)
                         case y24 =>
                          refine sc_seq fun K29 hK29 => ?_
                          refine sc_text [3, 3] ?_
                          refine sr_pu rfl (fun _ => rd_seq (ev_t rfl) ev_c) ?_
                          refine sr_pu rfl (fun _ => rd_assign (ev_t rfl)) ?_
                          refine sr_sub [(2, _, _), (3, _, _), (4, _, _)] (sub_cons rfl (sub_cons rfl (sub_cons rfl (sub_nil _)))) ?_
                          refine sr_nil (hK29 _ _ ?_)
                          refine' sc_or [(2, _, _)] (sub_cons rfl (sub_cons rfl (sub_nil _))) rfl (fun hb25 => ?y25) (fun a ha => ⟨ha, rfl⟩)
                          case y25 =>
                           refine sc_seq fun K30 hK30 => ?_
                           refine sc_text [3, 3] ?_
                           refine sr_pu rfl (fun _ => rd_seq (ev_t rfl) ev_c) ?_
                           refine sr_pu rfl (fun _ => rd_assign (ev_t rfl)) ?_
                           refine sr_sub [(2, _, _), (3, _, _), (4, _, _)] (sub_cons rfl (sub_cons rfl (sub_cons rfl (sub_nil _)))) ?_
                           refine sr_nil (hK30 _ _ ?_)
                           refine' sc_or [(2, _, _)] (sub_cons rfl (sub_cons rfl (sub_nil _))) rfl (fun hb26 => ?y26) (fun a ha => ⟨ha, rfl⟩)
                           case y26 =>
                            refine sc_seq fun K31 hK31 => ?_
                            refine sc_text [3, 3] ?_
                            refine sr_pu rfl (fun _ => rd_seq (ev_t rfl) ev_c) ?_
                            refine sr_pu rfl (fun _ => rd_assign (ev_t rfl)) ?_
                            refine sr_sub [(2, _, _), (3, _, _), (4, _, _)] (sub_cons rfl (sub_cons rfl (sub_cons rfl (sub_nil _)))) ?_
                            refine sr_nil (hK31 _ _ ?_)
                            refine' sc_or [(2, _, _)] (sub_cons rfl (sub_cons rfl (sub_nil _))) rfl (fun hb27 => ?y27) (fun a ha => ⟨ha, rfl⟩)
                            case y27 =>
                             refine sc_seq fun K32 hK32 => ?_
                             refine sc_text [3, 3] ?_
                             refine sr_pu rfl (fun _ => rd_seq (ev_t rfl) ev_c) ?_
                             refine sr_pu rfl (fun _ => rd_assign (ev_t rfl)) ?_
                             refine sr_sub [(2, _, _), (3, _, _), (4, _, _)] (sub_cons rfl (sub_cons rfl (sub_cons rfl (sub_nil _)))) ?_
                             refine sr_nil (hK32 _ _ ?_)
                             refine' sc_or [(2, _, _)] (sub_cons rfl (sub_cons rfl (sub_nil _))) rfl (fun hb28 => ?y28) (fun a ha => ⟨ha, rfl⟩)
                             case y28 =>
                              refine sc_text [3, 3] ?_
                              refine sr_pu rfl (fun _ => rd_seq (ev_t rfl) ev_c) ?_
                              refine sr_pu rfl (fun _ => rd_assign (ev_t rfl)) ?_
                              refine sr_sub [(4, _, _), (2, _, _)] (sub_cons rfl (sub_cons rfl (sub_nil _))) ?_
                              exact sr_nil (fun a ha => ⟨ha, rfl⟩)
  case n1 =>
   refine sc_cond (ev_t rfl) (fun h29 => ?_) (fun h29 => ?_)
   · (try simp only [bsimp] at h29)
     refine sc_seq fun K33 hK33 => ?_
     refine sc_text [3] ?_
     refine sr_pu rfl (fun _ => rd_assign ev_c) ?_
     refine sr_sub [(2, _, _)] (sub_cons rfl (sub_nil _)) ?_
     refine sr_nil (hK33 _ _ ?_)
     refine sc_ret (t_ret1 rfl rfl ?_)
     refine ⟨?_, g⟩; simp only [inB, kws, List.any_cons, List.any_nil, Bool.or_false]; rw [h29]
   (try simp only [bsimp] at h29)
   refine sc_skip (hK2 _ _ ?_)
   refine sc_sub [(2, _, _)] (sub_cons rfl (sub_nil _)) ?_
   refine sc_seq fun K34 hK34 => ?_
   refine sc_text [3] ?_
   refine sr_pu rfl (fun _ => rd_assign ev_c) ?_
   refine sr_nil (hK34 _ _ ?_)
   refine sc_ret (t_ret1 rfl rfl ?_)
   refine ⟨?_, g⟩; simp only [inB, kws, List.any_cons, List.any_nil, Bool.or_false]; rw [h29]
theorem ending_ok (s : List UInt8) (w : World) : Ret PP fn_scan_ending #[Str s] w fun v w' => v = .bool (inB endw s) ∧ G w w' := by
  have g := G.refl w
  refine ret_of_sc (m := 19) func_scan_ending rfl rfl [(0, True, _)] (sub_cons rfl (sub_nil _)) ?_
  refine sc_seq fun K1 hK1 => ?_
  refine sc_text [3] ?_
  refine sr_pu rfl (fun _ => rd_assign ev_c) ?_
  refine sr_nil (hK1 _ _ ?_)
  refine sc_seq fun K2 hK2 => ?_
  refine sc_seq fun K3 hK3 => ?_
  refine sc_text [3] ?_
  refine sr_pu rfl (fun _ => rd_move (ev_t rfl)) ?_
  refine sr_sub [(2, _, _), (3, _, _)] (sub_cons rfl (sub_cons rfl (sub_nil _))) ?_
  refine sr_nil (hK3 _ _ ?_)
  refine sc_block ?_
  refine sc_seq fun K4 hK4 => ?_
  refine sc_seq fun K5 hK5 => ?_
  refine sc_text [3, 3] ?_
  refine sr_pu rfl (fun _ => rd_seq (ev_t rfl) ev_c) ?_
  refine sr_pu rfl (fun _ => rd_assign (ev_t rfl)) ?_
  refine sr_sub [(2, _, _), (3, _, _), (4, _, _)] (sub_cons rfl (sub_cons rfl (sub_cons rfl (sub_nil _)))) ?_
  refine sr_nil (hK5 _ _ ?_)
  refine' sc_or [(2, _, _)] (sub_cons rfl (sub_cons rfl (sub_nil _))) rfl (fun hb1 => ?y1) (hK4 _ _ ?n1)
  case y1 =>
   refine sc_seq fun K6 hK6 => ?_
   refine sc_text [3, 3] ?_
   refine sr_pu rfl (fun _ => rd_seq (ev_t rfl) ev_c) ?_
   refine sr_pu rfl (fun _ => rd_assign (ev_t rfl)) ?_
   refine sr_sub [(2, _, _), (3, _, _), (4, _, _)] (sub_cons rfl (sub_cons rfl (sub_cons rfl (sub_nil _)))) ?_
   refine sr_nil (hK6 _ _ ?_)
   refine' sc_or [(2, _, _)] (sub_cons rfl (sub_cons rfl (sub_nil _))) rfl (fun hb2 => ?y2) (fun a ha => ⟨ha, rfl⟩)
   case y2 =>
    refine sc_seq fun K7 hK7 => ?_
    refine sc_text [3, 3] ?_
    refine sr_pu rfl (fun _ => rd_seq (ev_t rfl) ev_c) ?_
    refine sr_pu rfl (fun _ => rd_assign (ev_t rfl)) ?_
    refine sr_sub [(2, _, _), (3, _, _), (4, _, _)] (sub_cons rfl (sub_cons rfl (sub_cons rfl (sub_nil _)))) ?_
    refine sr_nil (hK7 _ _ ?_)
    refine' sc_or [(2, _, _)] (sub_cons rfl (sub_cons rfl (sub_nil _))) rfl (fun hb3 => ?y3) (fun a ha => ⟨ha, rfl⟩)
    case y3 =>
     refine sc_seq fun K8 hK8 => ?_
     refine sc_text [3, 3] ?_
     refine sr_pu rfl (fun _ => rd_seq (ev_t rfl) ev_c) ?_
     refine sr_pu rfl (fun _ => rd_assign (ev_t rfl)) ?_
     refine sr_sub [(2, _, _), (3, _, _), (4, _, _)] (sub_cons rfl (sub_cons rfl (sub_cons rfl (sub_nil _)))) ?_
     refine sr_nil (hK8 _ _ ?_)
     refine' sc_or [(2, _, _)] (sub_cons rfl (sub_cons rfl (sub_nil _))) rfl (fun hb4 => ?y4) (fun a ha => ⟨ha, rfl⟩)
     case y4 =>
      refine sc_seq fun K9 hK9 => ?_
      refine sc_text [3, 3] ?_
      refine sr_pu rfl (fun _ => rd_seq (ev_t rfl) ev_c) ?_
      refine sr_pu rfl (fun _ => rd_assign (ev_t rfl)) ?_
      refine sr_sub [(2, _, _), (3, _, _), (4, _, _)] (sub_cons rfl (sub_cons rfl (sub_cons rfl (sub_nil _)))) ?_
      refine sr_nil (hK9 _ _ ?_)
      refine' sc_or [(2, _, _)] (sub_cons rfl (sub_cons rfl (sub_nil _))) rfl (fun hb5 => ?y5) (fun a ha => ⟨ha, rfl⟩)
      case y5 =>
       refine sc_seq fun K10 hK10 => ?_
       refine sc_text [3, 3] ?_
       refine sr_pu rfl (fun _ => rd_seq (ev_t rfl) ev_c) ?_
       refine sr_pu rfl (fun _ => rd_assign (ev_t rfl)) ?_
       refine sr_sub [(2, _, _), (3, _, _), (4, _, _)] (sub_cons rfl (sub_cons rfl (sub_cons rfl (sub_nil _)))) ?_
       refine sr_nil (hK10 _ _ ?_)
       refine' sc_or [(2, _, _)] (sub_cons rfl (sub_cons rfl (sub_nil _))) rfl (fun hb6 => ?y6) (fun a ha => ⟨ha, rfl⟩)
       case y6 =>
        refine sc_seq fun K11 hK11 => ?_
        refine sc_text [3, 3] ?_
        refine sr_pu rfl (fun _ => rd_seq (ev_t rfl) ev_c) ?_
        refine sr_pu rfl (fun _ => rd_assign (ev_t rfl)) ?_
        refine sr_sub [(2, _, _), (3, _, _), (4, _, _)] (sub_cons rfl (sub_cons rfl (sub_cons rfl (sub_nil _)))) ?_
        refine sr_nil (hK11 _ _ ?_)
        refine' sc_or [(2, _, _)] (sub_cons rfl (sub_cons rfl (sub_nil _))) rfl (fun hb7 => ?y7) (fun a ha => ⟨ha, rfl⟩)
        case y7 =>
         refine sc_seq fun K12 hK12 => ?_
         refine sc_text [3, 3] ?_
         refine sr_pu rfl (fun _ => rd_seq (ev_t rfl) ev_c) ?_
         refine sr_pu rfl (fun _ => rd_assign (ev_t rfl)) ?_
         refine sr_sub [(2, _, _), (3, _, _), (4, _, _)] (sub_cons rfl (sub_cons rfl (sub_cons rfl (sub_nil _)))) ?_
         refine sr_nil (hK12 _ _ ?_)
         refine' sc_or [(2, _, _)] (sub_cons rfl (sub_cons rfl (sub_nil _))) rfl (fun hb8 => ?y8) (fun a ha => ⟨ha, rfl⟩)
         case y8 =>
          refine sc_seq fun K13 hK13 => ?_
          refine sc_text [3, 3] ?_
          refine sr_pu rfl (fun _ => rd_seq (ev_t rfl) ev_c) ?_
          refine sr_pu rfl (fun _ => rd_assign (ev_t rfl)) ?_
          refine sr_sub [(2, _, _), (3, _, _), (4, _, _)] (sub_cons rfl (sub_cons rfl (sub_cons rfl (sub_nil _)))) ?_
          refine sr_nil (hK13 _ _ ?_)
          refine' sc_or [(2, _, _)] (sub_cons rfl (sub_cons rfl (sub_nil _))) rfl (fun hb9 => ?y9) (fun a ha => ⟨ha, rfl⟩)
          case y9 =>
           refine sc_seq fun K14 hK14 => ?_
           refine sc_text [3, 3] ?_
           refine sr_pu rfl (fun _ => rd_seq (ev_t rfl) ev_c) ?_
           refine sr_pu rfl (fun _ => rd_assign (ev_t rfl)) ?_
           refine sr_sub [(2, _, _), (3, _, _), (4, _, _)] (sub_cons rfl (sub_cons rfl (sub_cons rfl (sub_nil _)))) ?_
           refine sr_nil (hK14 _ _ ?_)
           refine' sc_or [(2, _, _)] (sub_cons rfl (sub_cons rfl (sub_nil _))) rfl (fun hb10 => ?y10) (fun a ha => ⟨ha, rfl⟩)
           case y10 =>
            refine sc_seq fun K15 hK15 => ?_
            refine sc_text [3, 3] ?_
            refine sr_pu rfl (fun _ => rd_seq (ev_t rfl) ev_c) ?_
            refine sr_pu rfl (fun _ => rd_assign (ev_t rfl)) ?_
            refine sr_sub [(2, _, _), (3, _, _), (4, _, _)] (sub_cons rfl (sub_cons rfl (sub_cons rfl (sub_nil _)))) ?_
            refine sr_nil (hK15 _ _ ?_)
            refine' sc_or [(2, _, _)] (sub_cons rfl (sub_cons rfl (sub_nil _))) rfl (fun hb11 => ?y11) (fun a ha => ⟨ha, rfl⟩)
            case y11 =>
             refine sc_seq fun K16 hK16 => ?_
             refine sc_text [3, 3] ?_
             refine sr_pu rfl (fun _ => rd_seq (ev_t rfl) ev_c) ?_
             refine sr_pu rfl (fun _ => rd_assign (ev_t rfl)) ?_
             refine sr_sub [(2, _, _), (3, _, _), (4, _, _)] (sub_cons rfl (sub_cons rfl (sub_cons rfl (sub_nil _)))) ?_
             refine sr_nil (hK16 _ _ ?_)
             refine' sc_or [(2, _, _)] (sub_cons rfl (sub_cons rfl (sub_nil _))) rfl (fun hb12 => ?y12) (fun a ha => ⟨ha, rfl⟩)
             case y12 =>
              refine sc_seq fun K17 hK17 => ?_
              refine sc_text [3, 3] ?_
              refine sr_pu rfl (fun _ => rd_seq (ev_t rfl) ev_c) ?_
              refine sr_pu rfl (fun _ => rd_assign (ev_t rfl)) ?_
              refine sr_sub [(2, _, _), (3, _, _), (4, _, _)] (sub_cons rfl (sub_cons rfl (sub_cons rfl (sub_nil _)))) ?_
              refine sr_nil (hK17 _ _ ?_)
              refine' sc_or [(2, _, _)] (sub_cons rfl (sub_cons rfl (sub_nil _))) rfl (fun hb13 => ?y13) (fun a ha => ⟨ha, rfl⟩)
              case y13 =>
               refine sc_text [3, 3] ?_
               refine sr_pu rfl (fun _ => rd_seq (ev_t rfl) ev_c) ?_
               refine sr_pu rfl (fun _ => rd_assign (ev_t rfl)) ?_
               refine sr_sub [(4, _, _), (2, _, _)] (sub_cons rfl (sub_cons rfl (sub_nil _))) ?_
               exact sr_nil (fun a ha => ⟨ha, rfl⟩)
  case n1 =>
   refine sc_cond (ev_t rfl) (fun h14 => ?_) (fun h14 => ?_)
   · (try simp only [bsimp] at h14)
     refine sc_seq fun K18 hK18 => ?_
     refine sc_text [3] ?_
     refine sr_pu rfl (fun _ => rd_assign ev_c) ?_
     refine sr_sub [(2, _, _)] (sub_cons rfl (sub_nil _)) ?_
     refine sr_nil (hK18 _ _ ?_)
     refine sc_ret (t_ret1 rfl rfl ?_)
     refine ⟨?_, g⟩; simp only [inB, endw, List.any_cons, List.any_nil, Bool.or_false]; rw [h14]
   (try simp only [bsimp] at h14)
   refine sc_skip (hK2 _ _ ?_)
   refine sc_sub [(2, _, _)] (sub_cons rfl (sub_nil _)) ?_
   refine sc_seq fun K19 hK19 => ?_
   refine sc_text [3] ?_
   refine sr_pu rfl (fun _ => rd_assign ev_c) ?_
   refine sr_nil (hK19 _ _ ?_)
   refine sc_ret (t_ret1 rfl rfl ?_)
   refine ⟨?_, g⟩; simp only [inB, endw, List.any_cons, List.any_nil, Bool.or_false]; rw [h14]
end Go.Rk
namespace Go.Rk
open Go Go.RowKit
def preB (p s : List UInt8) : Bool := decide (p.length ≤ s.length) && decide (s.take p.length = p)
theorem hasprefix_ok (s p : List UInt8) (w : World) : Ret PP fn_internal_stringslite_HasPrefix #[Str s, Str p] w fun v w' => v = .bool (preB p s) ∧ G w w' := by
  have g := G.refl w
  refine ret_of_sc (m := 18) func_internal_stringslite_HasPrefix rfl rfl [(0, True, _), (1, True, _)] (sub_cons rfl (sub_cons rfl (sub_nil _))) ?_
  refine sc_seq fun K1 hK1 => ?_
  refine sc_text [3] ?_
  refine sr_pu rfl (fun _ => rd_assign ev_c) ?_
  refine sr_nil (hK1 _ _ ?_)
  refine sc_seq fun K2 hK2 => ?_
  refine sc_text [3, 3, 3, 3, 3, 3, 3, 3, 3, 3, 3, 3, 3, 3] ?_
  refine sr_pu rfl (fun _ => rd_move (ev_t rfl)) ?_
  refine sr_pu rfl (fun _ => rd_slen str_string (ev_t rfl)) ?_
  refine sr_pu rfl (fun _ => rd_move (ev_t rfl)) ?_
  refine sr_pu rfl (fun _ => rd_slen str_string (ev_t rfl)) ?_
  refine sr_pu rfl (fun _ => rd_ge (ev_t rfl) (ev_t rfl)) ?_
  refine sr_pu rfl (fun _ => rd_move (ev_t rfl)) ?_
  refine sr_pug rfl rfl rfl (fun _ => rd_move (ev_t rfl)) ?_
  refine sr_pug rfl rfl rfl (fun _ => rd_move (ev_t rfl)) ?_
  refine sr_pug rfl rfl rfl (fun _ => rd_slen str_string (ev_u rfl id)) ?_
  refine sr_pug rfl rfl rfl (fun _ => rd_ssl_to str_string (ev_u rfl id) (ev_u rfl id) (fun hc => ⟨by omega, by have := of_decide_eq_true hc.2; omega⟩)) ?_
  refine sr_pug rfl rfl rfl (fun _ => rd_move (ev_t rfl)) ?_
  refine sr_pug rfl rfl rfl (fun _ => rd_seq (ev_u rfl id) (ev_u rfl id)) ?_
  refine sr_pu rfl (fun _ => rd_pick_and (ev_t rfl) (ev_u rfl id)) ?_
  refine sr_pu rfl (fun _ => rd_assign (ev_t rfl)) ?_
  refine sr_sub [(4, _, _)] (sub_cons rfl (sub_nil _)) ?_
  refine sr_nil (hK2 _ _ ?_)
  refine sc_ret (t_ret1 rfl rfl ?_)
  refine ⟨?_, g⟩; unfold preB; simp
theorem shasprefix_ok (s p : List UInt8) (w : World) : Ret PP fn_strings_HasPrefix #[Str s, Str p] w fun v w' => v = .bool (preB p s) ∧ G w w' := by
  have g := G.refl w
  refine ret_of_sc (m := 8) func_strings_HasPrefix rfl rfl [(0, True, _), (1, True, _)] (sub_cons rfl (sub_cons rfl (sub_nil _))) ?_
  refine sc_seq fun K1 hK1 => ?_
  refine sc_text [3] ?_
  refine sr_pu rfl (fun _ => rd_assign ev_c) ?_
  refine sr_nil (hK1 _ _ ?_)
  refine sc_seq fun K2 hK2 => ?_
  refine sc_text [3, 3, 1, 3] ?_
  refine sr_pu rfl (fun _ => rd_move (ev_t rfl)) ?_
  refine sr_pu rfl (fun _ => rd_move (ev_t rfl)) ?_
  refine sr_pure rfl (rc_call go_internal_stringslite_HasPrefix ev_f (args_cons (ev_t rfl) (args_cons (ev_t rfl) (args_nil))) rfl) (hasprefix_ok _ _ _) (fun w7 g7 => ?_)
  have g := g.trans (g7)
  refine sr_pu rfl (fun _ => rd_assign (ev_t rfl)) ?_
  refine sr_sub [(4, _, _)] (sub_cons rfl (sub_nil _)) ?_
  refine sr_nil (hK2 _ _ ?_)
  refine sc_ret (t_ret1 rfl rfl ?_)
  exact ⟨rfl, g⟩

structure Tok where
  kind : Int
  text : List UInt8
  pos : Int
def tokCells (t : Tok) : List Value := [.int .i64 t.kind, Str t.text, .int .i64 t.pos]
def toksCells (l : List Tok) : List Value := l.flatMap tokCells
theorem toksCells_length (l : List Tok) : (toksCells l).length = l.length * 3 := by
  unfold toksCells
  induction l with
  | nil => rfl
  | cons t l ih => rw [List.flatMap_cons, List.length_append, ih]; simp [tokCells]; omega
theorem toksCells_snoc (l : List Tok) (t : Tok) : toksCells (l ++ [t]) = toksCells l ++ tokCells t := by simp [toksCells]
/-- The scanner's state in block b: the text, the place, the tokens, the comments. -/
def Scn (base b : Nat) (s : List UInt8) (p : Nat) (ts cs : List Tok) (w : World) : Prop :=
  ∃ ta tc ca cc, Blk w b ty_scan_scanner [Str s, .int .i64 p, .slice ta ts.length tc, .slice ca cs.length cc] ∧ base ≤ b ∧ w.ownsRow base ty_api_Token 3 (.slice ta ts.length tc) ts.length (toksCells ts) ∧
    w.ownsRow base ty_api_Token 3 (.slice ca cs.length cc) cs.length (toksCells cs) ∧ (Value.slice ta ts.length tc).ownBlock ≠ some b ∧ (Value.slice ca cs.length cc).ownBlock ≠ some b ∧
    (∀ k, (Value.slice ta ts.length tc).ownBlock = some k → (Value.slice ca cs.length cc).ownBlock ≠ some k) ∧ ts.length ≤ p ∧ cs.length ≤ p ∧ p ≤ s.length ∧ s.length ≤ 20000

/-- How two rows stay apart where the first one grows. -/
theorem apart_append {w : World} {base : Nat} {e : TypeId} {z : Nat} {tv tv' cv : Value} {m : Nat} {xs : List Value} (hc : w.ownsRow base e z cv m xs) (n3 : ∀ k, tv.ownBlock = some k → cv.ownBlock ≠ some k)
    (hat : tv'.ownBlock = tv.ownBlock ∨ tv'.ownBlock = some w.heap.size) : ∀ k, tv'.ownBlock = some k → cv.ownBlock ≠ some k := by
  intro k hk
  rcases hat with e | e
  · exact n3 k (e ▸ hk)
  · rw [e] at hk; injection hk with hk; subst hk; exact own_ne hc (Nat.le_refl _)
theorem apart_blk {w : World} {b : Nat} {tv tv' : Value} (hb : b < w.heap.size) (n1 : tv.ownBlock ≠ some b) (hat : tv'.ownBlock = tv.ownBlock ∨ tv'.ownBlock = some w.heap.size) : tv'.ownBlock ≠ some b := by
  rcases hat with e | e <;> rw [e]
  · exact n1
  · intro h; injection h with h; omega
theorem apart_row {w w' : World} {base : Nat} {e : TypeId} {z : Nat} {tv cv : Value} {m : Nat} {xs : List Value} (hc : w.ownsRow base e z cv m xs) (n3 : ∀ k, tv.ownBlock = some k → cv.ownBlock ≠ some k) (hg : w.grownBy w' tv.ownBlock) : w'.ownsRow base e z cv m xs :=
  own_keep hc hg (by rcases hq : cv.ownBlock with _ | k; exact .inl rfl; exact .inr (fun he => n3 k he.symm hq))

theorem put_ok (base b : Nat) (s : List UInt8) (p : Nat) (ts cs : List Tok) (kind : Int) (size : Nat) (w : World) (hs : Scn base b s p ts cs w) (h1 : 1 ≤ size) (h2 : p + size ≤ s.length) :
    Ret PP fn_scan_scanner_put #[.pointer (some ⟨b, 0, none⟩), .int .i64 kind, .int .i64 size] w fun v w' => v = .tuple #[] ∧ Scn base b s (p + size) (ts ++ [⟨kind, (s.drop p).take size, p⟩]) cs w' ∧ Below base w w' := by
  obtain ⟨ta, tc, ca, cc, hB, hb0, ht, hc, n1, n2, n3, k1, k2, k3, k4⟩ := hs
  have hb : Below base w w := Below.refl _ _
  have hlt := hB.lt
  refine ret_of_sc (m := 44) func_scan_scanner_put rfl rfl [(0, True, _), (1, True, _), (2, True, _)] (sub_cons rfl (sub_cons rfl (sub_cons rfl (sub_nil _)))) ?_
  refine sc_seq fun K1 hK1 => ?_
  refine sc_draw [3, 3, 3, 3, 0, 3, 3, 3, 3, 0, 3, 3, 3, 0, 3, 3, 3, 0, 3, 3, 3, 3, 3, 3, 0, 3, 1, 2, 3, 3, 2] [true, true, true, true, true, true, true, true, true, true, true, true, true, true, true, true, true, true, true, true, true, true, true, true, true, true, true, true, true, true, true] [0, 0, 2, 6, 14, 0, 0, 64, 192, 448, 0, 1024, 3072, 7168, 0, 16384, 49152, 114688, 0, 507904, 1048512, 0, 2097152, 6291456, 14680064, 33554400, 67108832, 134217726, 268435455, 536870911, 1073741823] mix (by kernel_rfl) ?_
  have hb := hb.drew
  have hB : Blk w.drew _ _ _ := hB
  have ht := own_drew ht
  have hc := own_drew hc
  refine sr_pu rfl (fun _ => rd_move (ev_t rfl)) ?_
  refine sr_pu rfl (fun _ => rd_move (ev_t rfl)) ?_
  refine sr_pu rfl (fun _ => rd_nil (ev_t rfl)) ?_
  refine sr_pu rfl (fun _ => rd_field fo_scan_scanner_2 (ev_t rfl)) ?_
  refine sr_rd rfl (rd_load one_sl_api_Token (ev_t rfl) (fun _ => hB.at_ rfl)) ?_
  refine sr_pu rfl (fun _ => rd_move (ev_t rfl)) ?_
  refine sr_pu rfl (fun _ => rd_move (ev_t rfl)) ?_
  refine sr_pu rfl (fun _ => rd_nil (ev_t rfl)) ?_
  refine sr_pu rfl (fun _ => rd_field fo_scan_scanner_0 (ev_t rfl)) ?_
  refine sr_rd rfl (rd_load one_string (ev_t rfl) (fun _ => hB.at_ rfl)) ?_
  refine sr_pu rfl (fun _ => rd_move (ev_t rfl)) ?_
  refine sr_pu rfl (fun _ => rd_nil (ev_t rfl)) ?_
  refine sr_pu rfl (fun _ => rd_field fo_scan_scanner_1 (ev_t rfl)) ?_
  refine sr_rd rfl (rd_load one_int (ev_t rfl) (fun _ => hB.at_ rfl)) ?_
  refine sr_pu rfl (fun _ => rd_move (ev_t rfl)) ?_
  refine sr_pu rfl (fun _ => rd_nil (ev_t rfl)) ?_
  refine sr_pu rfl (fun _ => rd_field fo_scan_scanner_1 (ev_t rfl)) ?_
  refine sr_rd rfl (rd_load one_int (ev_t rfl) (fun _ => hB.at_ rfl)) ?_
  refine sr_pu rfl (fun _ => rd_move (ev_t rfl)) ?_
  refine sr_pu rfl (fun _ => rd_add (ev_t rfl) (ev_t rfl) (fun _ => by omega)) ?_
  refine sr_pu rfl (fun _ => rd_ssl str_string (ev_t rfl) (ev_t rfl) (ev_t rfl) (fun _ => by omega)) ?_
  refine sr_pu rfl (fun _ => rd_move (ev_t rfl)) ?_
  refine sr_pu rfl (fun _ => rd_nil (ev_t rfl)) ?_
  refine sr_pu rfl (fun _ => rd_field fo_scan_scanner_1 (ev_t rfl)) ?_
  refine sr_rd rfl (rd_load one_int (ev_t rfl) (fun _ => hB.at_ rfl)) ?_
  refine sr_pu rfl (fun _ => rd_build [_, _, _] ze_api_Token rfl pl_api_Token (parts_cons (ev_t rfl) (parts_cons (ev_t rfl) (parts_cons (ev_t rfl) (parts_nil)))) rfl) ?_
  refine sr_buildSlice [_, _, _] rfl el_sl_api_Token ze_api_Token (parts_cons (ev_t rfl) (parts_nil)) rfl rfl ?_
  intro b32 w32 N32
  have hb := hb.trans (below_g N32.g (by show base ≤ w.heap.size; omega))
  have hB := hB.grow N32.g
  have ht := own_grow ht N32.g
  have hc := own_grow hc N32.g
  have hlt := hB.lt
  have B32 := N32.blk
  refine sr_append rfl el_sl_api_Token ze_api_Token rfl (by decide) (ev_t rfl) ht (ev_t rfl) rfl N32.blk.row rfl (by simp only [maxLen]; omega) (by omega) (by omega) ?_
  intro ta' tc' w33 ht' hg hat
  have hb := below_only hb hg (by omega) (fun k hk => (ht.lt k hk).1)
  have hB := hB.keep hg (Ne.symm n1)
  have n3' := apart_append hc n3 hat
  have hc := apart_row hc n3 hg
  have n3 := n3'
  have n1 := apart_blk hlt n1 hat
  refine sr_pu rfl (fun _ => rd_nil (ev_t rfl)) ?_
  refine sr_pu rfl (fun _ => rd_field fo_scan_scanner_2 (ev_t rfl)) ?_
  refine sr_store rfl sz_sl_api_Token (ev_t rfl) (ev_t rfl) rfl rfl hB rfl rfl ?_
  intro w34 hg2 hz2 hB
  have hb := below_only hb hg2 (by have := hb.size; omega) (fun k hk => by injection hk with hk; omega)
  have ht' := own_keep ht' hg2 (.inr n1)
  have hc := own_keep hc hg2 (.inr n2)
  refine sr_sub [(0, _, _), (2, _, _)] (sub_cons rfl (sub_cons rfl (sub_nil _))) ?_
  refine sr_nil (hK1 _ _ ?_)
  refine sc_text [3, 3, 3, 0, 3, 3, 3, 3, 2] ?_
  refine sr_pu rfl (fun _ => rd_move (ev_t rfl)) ?_
  refine sr_pu rfl (fun _ => rd_nil (ev_t rfl)) ?_
  refine sr_pu rfl (fun _ => rd_field fo_scan_scanner_1 (ev_t rfl)) ?_
  refine sr_rd rfl (rd_load one_int (ev_t rfl) (fun _ => hB.at_ rfl)) ?_
  refine sr_pu rfl (fun _ => rd_move (ev_t rfl)) ?_
  refine sr_pu rfl (fun _ => rd_add (ev_t rfl) (ev_t rfl) (fun _ => by omega)) ?_
  refine sr_pu rfl (fun _ => rd_nil (ev_t rfl)) ?_
  refine sr_pu rfl (fun _ => rd_field fo_scan_scanner_1 (ev_t rfl)) ?_
  refine sr_store rfl sz_int (ev_t rfl) (ev_t rfl) rfl rfl hB rfl rfl ?_
  intro w44 hg3 hz3 hB
  have hb := below_only hb hg3 (by have := hb.size; omega) (fun k hk => by injection hk with hk; omega)
  have ht' := own_keep ht' hg3 (.inr n1)
  have hc := own_keep hc hg3 (.inr n2)
  refine sr_sub [] (sub_nil _) ?_
  refine sr_nil (t_end0 rfl ?_)
  have e : ((p : Int) + size).toNat - (p : Int).toNat = size := by omega
  rw [e] at ht'
  have hl : (ts ++ [(⟨kind, (s.drop p).take size, p⟩ : Tok)]).length = ts.length + 1 := by simp
  refine ⟨rfl, ⟨ta', tc', ca, cc, ?_, hb0, ?_, hc, ?_, n2, ?_, ?_, by omega, h2, k4⟩, hb⟩ <;> rw [hl]
  · exact hB
  · rw [toksCells_snoc]; exact ht'
  · exact n1
  · exact n3
  · omega
end Go.Rk
namespace Go.Rk
open Go Go.RowKit
/-- The scanner's state with its rows' headers. -/
structure SA (base b : Nat) (s : List UInt8) (p : Nat) (ts cs : List Tok) (ta : Option Addr) (tc : Nat) (ca : Option Addr) (cc : Nat) (w : World) : Prop where
  B : Blk w b ty_scan_scanner [Str s, .int .i64 p, .slice ta ts.length tc, .slice ca cs.length cc]
  hb : base ≤ b
  ht : w.ownsRow base ty_api_Token 3 (.slice ta ts.length tc) ts.length (toksCells ts)
  hc : w.ownsRow base ty_api_Token 3 (.slice ca cs.length cc) cs.length (toksCells cs)
  n1 : (Value.slice ta ts.length tc).ownBlock ≠ some b
  n2 : (Value.slice ca cs.length cc).ownBlock ≠ some b
  n3 : ∀ k, (Value.slice ta ts.length tc).ownBlock = some k → (Value.slice ca cs.length cc).ownBlock ≠ some k
theorem SA.grow {base b : Nat} {s : List UInt8} {p : Nat} {ts cs : List Tok} {ta : Option Addr} {tc : Nat} {ca : Option Addr} {cc : Nat} {w w1 : World} (h : SA base b s p ts cs ta tc ca cc w) (g : G w w1) : SA base b s p ts cs ta tc ca cc w1 :=
  { h with B := h.B.grow g, ht := own_grow h.ht g, hc := own_grow h.hc g }
theorem SA.scn {base b : Nat} {s : List UInt8} {p : Nat} {ts cs : List Tok} {ta : Option Addr} {tc : Nat} {ca : Option Addr} {cc : Nat} {w : World} (h : SA base b s p ts cs ta tc ca cc w) (k1 : ts.length ≤ p) (k2 : cs.length ≤ p) (k3 : p ≤ s.length) (k4 : s.length ≤ 20000) : Scn base b s p ts cs w :=
  ⟨ta, tc, ca, cc, h.B, h.hb, h.ht, h.hc, h.n1, h.n2, h.n3, k1, k2, k3, k4⟩
theorem Scn.sa {base b : Nat} {s : List UInt8} {p : Nat} {ts cs : List Tok} {w : World} (h : Scn base b s p ts cs w) : ∃ ta tc ca cc, SA base b s p ts cs ta tc ca cc w ∧ ts.length ≤ p ∧ cs.length ≤ p ∧ p ≤ s.length ∧ s.length ≤ 20000 := by
  obtain ⟨ta, tc, ca, cc, hB, hb0, ht, hc, n1, n2, n3, k1, k2, k3, k4⟩ := h
  exact ⟨ta, tc, ca, cc, ⟨hB, hb0, ht, hc, n1, n2, n3⟩, k1, k2, k3, k4⟩
theorem SA.base_le {base b : Nat} {s : List UInt8} {p : Nat} {ts cs : List Tok} {ta : Option Addr} {tc : Nat} {ca : Option Addr} {cc : Nat} {w : World} (h : SA base b s p ts cs ta tc ca cc w) : base ≤ w.heap.size := by have := h.hb; have := h.B.lt; omega
theorem SA.setp {base b : Nat} {s : List UInt8} {p q : Nat} {ts cs : List Tok} {ta : Option Addr} {tc : Nat} {ca : Option Addr} {cc : Nat} {w w1 : World} (h : SA base b s p ts cs ta tc ca cc w) (hg : w.grownBy w1 (some b))
    (hB : Blk w1 b ty_scan_scanner [Str s, .int .i64 q, .slice ta ts.length tc, .slice ca cs.length cc]) : SA base b s q ts cs ta tc ca cc w1 :=
  { h with B := hB, ht := own_keep h.ht hg (.inr h.n1), hc := own_keep h.hc hg (.inr h.n2) }
theorem below_go {base b : Nat} {a wk w1 w2 : World} (hb : Below base a wk) (g : G wk w1) (hg : w1.grownBy w2 (some b)) (hz : base ≤ wk.heap.size) (h : base ≤ b) : Below base a w2 := by
  have := g.size
  exact below_only (hb.trans (below_g g hz)) hg (by omega) (fun k hk => by injection hk with hk; omega)
theorem Scn.grow {base b : Nat} {s : List UInt8} {p : Nat} {ts cs : List Tok} {w w1 : World} (h : Scn base b s p ts cs w) (g : G w w1) : Scn base b s p ts cs w1 := by
  obtain ⟨ta, tc, ca, cc, h, k1, k2, k3, k4⟩ := h.sa
  exact (h.grow g).scn k1 k2 k3 k4
/-- A token is appended to the tokens, and stored. -/
theorem SA.putT {base b : Nat} {s : List UInt8} {p : Nat} {ts cs : List Tok} {ta : Option Addr} {tc : Nat} {ca : Option Addr} {cc : Nat} {w w1 w2 : World} {ta' : Option Addr} {tc' : Nat} {t : Tok} (h : SA base b s p ts cs ta tc ca cc w)
    (h1 : w1.ownsRow base ty_api_Token 3 (.slice ta' (ts.length + 1) tc') (ts.length + 1) (toksCells ts ++ tokCells t)) (hg : w.grownBy w1 (Value.slice ta ts.length tc).ownBlock)
    (hat : (Value.slice ta' (ts.length + 1) tc').ownBlock = (Value.slice ta ts.length tc).ownBlock ∨ (Value.slice ta' (ts.length + 1) tc').ownBlock = some w.heap.size) (hg2 : w1.grownBy w2 (some b))
    (hB : Blk w2 b ty_scan_scanner [Str s, .int .i64 p, .slice ta' (ts.length + 1) tc', .slice ca cs.length cc]) : SA base b s p (ts ++ [t]) cs ta' tc' ca cc w2 := by
  have n1 := apart_blk h.B.lt h.n1 hat
  have hl : (ts ++ [t]).length = ts.length + 1 := by simp
  have hc := apart_row h.hc h.n3 hg
  refine ⟨by rw [hl]; exact hB, h.hb, ?_, own_keep hc hg2 (.inr h.n2), by rw [hl]; exact n1, h.n2, ?_⟩
  · rw [hl, toksCells_snoc]; exact own_keep h1 hg2 (.inr n1)
  · rw [hl]; exact apart_append h.hc h.n3 hat
/-- A comment is appended to the comments, and stored. -/
theorem SA.putC {base b : Nat} {s : List UInt8} {p : Nat} {ts cs : List Tok} {ta : Option Addr} {tc : Nat} {ca : Option Addr} {cc : Nat} {w w1 w2 : World} {ca' : Option Addr} {cc' : Nat} {t : Tok} (h : SA base b s p ts cs ta tc ca cc w)
    (h1 : w1.ownsRow base ty_api_Token 3 (.slice ca' (cs.length + 1) cc') (cs.length + 1) (toksCells cs ++ tokCells t)) (hg : w.grownBy w1 (Value.slice ca cs.length cc).ownBlock)
    (hat : (Value.slice ca' (cs.length + 1) cc').ownBlock = (Value.slice ca cs.length cc).ownBlock ∨ (Value.slice ca' (cs.length + 1) cc').ownBlock = some w.heap.size) (hg2 : w1.grownBy w2 (some b))
    (hB : Blk w2 b ty_scan_scanner [Str s, .int .i64 p, .slice ta ts.length tc, .slice ca' (cs.length + 1) cc']) : SA base b s p ts (cs ++ [t]) ta tc ca' cc' w2 := by
  have n2 := apart_blk h.B.lt h.n2 hat
  have hl : (cs ++ [t]).length = cs.length + 1 := by simp
  have n3' : ∀ k, (Value.slice ca cs.length cc).ownBlock = some k → (Value.slice ta ts.length tc).ownBlock ≠ some k := fun k hk he => h.n3 k he hk
  have ht := apart_row h.ht n3' hg
  refine ⟨by rw [hl]; exact hB, h.hb, own_keep ht hg2 (.inr h.n1), ?_, h.n1, by rw [hl]; exact n2, ?_⟩
  · rw [hl, toksCells_snoc]; exact own_keep h1 hg2 (.inr n2)
  · rw [hl]; exact fun k hk he => apart_append h.ht n3' hat k he hk
def endsT (t : Tok) : Bool := (decide (t.kind = 1) || decide (t.kind = 2)) || inB endw t.text
def nlTs (p : Nat) (ts : List Tok) : List Tok := match ts.getLast? with
  | some t => if endsT t = true then ts ++ [⟨4, [59], p⟩] else ts
  | none => ts
theorem row_last {w : World} {b : Nat} {ts0 : List Tok} {t : Tok} (h : RowAt w b 0 (toksCells (ts0 ++ [t]))) : RowAt w b (0 + (((ts0 ++ [t]).length : Nat) - 1 : Int).toNat * 3) (tokCells t) := by
  have e : (((ts0 ++ [t]).length : Nat) - 1 : Int).toNat = ts0.length := by simp
  have k := h.part (ts0.length * 3) 3
  rw [e]
  have e2 : ((toksCells (ts0 ++ [t])).drop (ts0.length * 3)).take 3 = tokCells t := by
    rw [toksCells_snoc, List.drop_append_of_le_length (by rw [toksCells_length]; exact Nat.le_refl _), List.drop_of_length_le (by rw [toksCells_length]; exact Nat.le_refl _)]
    rfl
  rw [e2] at k; exact k
theorem newline_ok (base b : Nat) (s : List UInt8) (p : Nat) (ts cs : List Tok) (w : World) (hs : Scn base b s p ts cs w) (h2 : p < s.length) :
    Ret PP fn_scan_scanner_newline #[.pointer (some ⟨b, 0, none⟩)] w fun v w' => v = .tuple #[] ∧ Scn base b s (p + 1) (nlTs p ts) cs w' ∧ Below base w w' := by
  obtain ⟨ta, tc, ca, cc, hs, k1, k2, k3, k4⟩ := hs.sa
  have g := G.refl w
  have hb : Below base w w := Below.refl _ _
  refine ret_of_sc (m := 53) func_scan_scanner_newline rfl rfl [(0, True, _)] (sub_cons rfl (sub_nil _)) ?_
  refine sc_seq fun K1 hK1 => ?_
  refine sc_seq fun K2 hK2 => ?_
  refine sc_text [3, 3, 3, 0, 3, 3] ?_
  refine sr_pu rfl (fun _ => rd_move (ev_t rfl)) ?_
  refine sr_pu rfl (fun _ => rd_nil (ev_t rfl)) ?_
  refine sr_pu rfl (fun _ => rd_field fo_scan_scanner_2 (ev_t rfl)) ?_
  refine sr_rd rfl (rd_load one_sl_api_Token (ev_t rfl) (fun _ => by first | exact (hs.grow g).B.at_ rfl)) ?_
  refine sr_pu rfl (fun _ => rd_len el_sl_api_Token (ev_t rfl)) ?_
  refine sr_pu rfl (fun _ => rd_assign (ev_t rfl)) ?_
  refine sr_sub [(0, _, _), (2, _, _)] (sub_cons rfl (sub_cons rfl (sub_nil _))) ?_
  refine sr_nil (hK2 _ _ ?_)
  refine sc_seq fun K3 hK3 => ?_
  refine sc_text [3, 3] ?_
  refine sr_pu rfl (fun _ => rd_move (ev_t rfl)) ?_
  refine sr_pu rfl (fun _ => rd_gt (ev_t rfl) ev_c) ?_
  refine sr_sub [(0, _, _), (2, _, _), (10, _, _)] (sub_cons rfl (sub_cons rfl (sub_cons rfl (sub_nil _)))) ?_
  refine sr_nil (hK3 _ _ ?_)
  refine sc_cond (ev_t rfl) (fun h1 => ?_) (fun h1 => ?_)
  · have hp : 0 < ts.length := by simp only [decide_eq_true_eq] at h1; omega
    obtain ⟨ts0, t, ets⟩ : ∃ ts0 t, ts = ts0 ++ [t] := by
      rcases List.eq_nil_or_concat ts with e | ⟨l, x, e⟩
      · rw [e] at hp; cases hp
      · exact ⟨l, x, by simpa using e⟩
    subst ets
    obtain ⟨bt, ct, ev, _, hrow, _⟩ := own_pos hs.ht hp
    injection ev with e1 e2 e3
    subst e1
    have hrow' := row_last hrow
    have hne : nlTs p (ts0 ++ [t]) = if endsT t = true then (ts0 ++ [t]) ++ [⟨4, [59], p⟩] else ts0 ++ [t] := by simp [nlTs]
    refine sc_seq fun K4 hK4 => ?_
    refine sc_text [3, 3, 3, 0, 3, 3, 3, 0, 1, 2] ?_
    refine sr_pu rfl (fun _ => rd_move (ev_t rfl)) ?_
    refine sr_pu rfl (fun _ => rd_nil (ev_t rfl)) ?_
    refine sr_pu rfl (fun _ => rd_field fo_scan_scanner_2 (ev_t rfl)) ?_
    refine sr_rd rfl (rd_load one_sl_api_Token (ev_t rfl) (fun _ => by first | exact (hs.grow g).B.at_ rfl)) ?_
    refine sr_pu rfl (fun _ => rd_move (ev_t rfl)) ?_
    refine sr_pu rfl (fun _ => rd_sub (ev_t rfl) ev_c (fun _ => by omega)) ?_
    refine sr_pu rfl (fun _ => rd_idx el_sl_api_Token (ev_t rfl) (ev_t rfl) (fun _ => by omega)) ?_
    refine sr_rd rfl (rd_loads agg_api_Token (ev_t rfl) rfl (fun _ => hrow')) ?_
    refine sr_alloc rfl ze_api_Token rfl ?_
    intro b3 w3 N3
    have l3 := N3.ge g
    have g := g.trans (N3.g)
    have B3 := N3.blk
    refine sr_store_all rfl sz_api_Token (ev_t rfl) (ev_t rfl) rfl rfl B3 rfl rfl ?_
    intro wS1 hgS1 hzS1
    clear B3
    intro B3
    have g := g_only g hgS1 (by intro k hk; injection hk with hk; omega)
    refine sr_sub [(0, _, _), (3, _, _)] (sub_cons rfl (sub_cons rfl (sub_nil _))) ?_
    refine sr_nil (hK4 _ _ ?_)
    refine sc_seq fun K5 hK5 => ?_
    refine sc_text [3, 0, 3, 3, 3, 0, 3, 3, 3, 3, 0, 1, 3] ?_
    refine sr_pu rfl (fun _ => rd_field fo_api_Token_0 (ev_t rfl)) ?_
    refine sr_rd rfl (rd_load one_int (ev_t rfl) (fun _ => B3.at_ rfl)) ?_
    refine sr_pu rfl (fun _ => rd_eq (ev_t rfl) ev_c) ?_
    refine sr_pu rfl (fun _ => rd_move (ev_t rfl)) ?_
    refine sr_pug rfl rfl rfl (fun _ => rd_field fo_api_Token_0 (ev_t rfl)) ?_
    refine sr_rdg rfl rfl rfl (rd_load one_int (ev_u rfl id) (fun _ => B3.at_ rfl)) ?_
    refine sr_pug rfl rfl rfl (fun _ => rd_eq (ev_u rfl id) ev_c) ?_
    refine sr_pu rfl (fun _ => rd_pick_or (ev_t rfl) (ev_u rfl id)) ?_
    refine sr_pu rfl (fun _ => rd_move (ev_t rfl)) ?_
    refine sr_pug rfl rfl rfl (fun _ => rd_field fo_api_Token_1 (ev_t rfl)) ?_
    refine sr_rdg rfl rfl rfl (rd_load one_string (ev_u rfl id) (fun _ => B3.at_ rfl)) ?_
    refine sr_pureg rfl rfl rfl (fun _ => (rc_call go_scan_ending ev_f (args_cons (ev_u rfl id) (args_nil)) rfl)) (fun hc => ending_ok _ _) (fun w30 g30 => ?_)
    have g := g.trans (g30)
    replace B3 := B3.grow (g30)
    refine sr_pu rfl (fun _ => rd_pick_or (ev_t rfl) (ev_u rfl id)) ?_
    refine sr_sub [(0, _, _), (31, _, _)] (sub_cons rfl (sub_cons rfl (sub_nil _))) ?_
    refine sr_nil (hK5 _ _ ?_)
    refine sc_cond (ev_t rfl) (fun h2 => ?_) (fun h2 => ?_)
    · rw [if_pos (show endsT t = true from h2)] at hne
      have hl : (nlTs p (ts0 ++ [t])).length ≤ p + 1 := by rw [hne, List.length_append]; exact Nat.succ_le_succ k1
      refine sc_draw [3, 3, 3, 3, 0, 3, 3, 3, 0, 3, 1, 2, 3, 3, 2] [true, true, true, true, true, true, true, true, true, true, true, true, true, true, true] [0, 0, 2, 6, 14, 0, 32, 96, 224, 480, 992, 2046, 4095, 8191, 16383] mix (by kernel_rfl) ?_
      have g := g.trans (G.drew _)
      replace B3 := B3.grow (G.drew _)
      refine sr_pu rfl (fun _ => rd_move (ev_t rfl)) ?_
      refine sr_pu rfl (fun _ => rd_move (ev_t rfl)) ?_
      refine sr_pu rfl (fun _ => rd_nil (ev_t rfl)) ?_
      refine sr_pu rfl (fun _ => rd_field fo_scan_scanner_2 (ev_t rfl)) ?_
      refine sr_rd rfl (rd_load one_sl_api_Token (ev_t rfl) (fun _ => by first | exact (hs.grow g).B.at_ rfl | exact B3.at_ rfl | exact B3.row)) ?_
      refine sr_pu rfl (fun _ => rd_move (ev_t rfl)) ?_
      refine sr_pu rfl (fun _ => rd_nil (ev_t rfl)) ?_
      refine sr_pu rfl (fun _ => rd_field fo_scan_scanner_1 (ev_t rfl)) ?_
      refine sr_rd rfl (rd_load one_int (ev_t rfl) (fun _ => by first | exact (hs.grow g).B.at_ rfl | exact B3.at_ rfl | exact B3.row)) ?_
      refine sr_pu rfl (fun _ => rd_build [_, _, _] ze_api_Token rfl pl_api_Token (parts_cons ev_c (parts_cons ev_c (parts_cons (ev_t rfl) (parts_nil)))) rfl) ?_
      refine sr_buildSlice [_, _, _] rfl el_sl_api_Token ze_api_Token (parts_cons (ev_t rfl) (parts_nil)) rfl rfl ?_
      intro b42 w42 N42
      have x42_3 := N42.ne B3
      have l42 := N42.ge g
      have g := g.trans (N42.g)
      replace B3 := B3.grow (N42.g)
      have B42 := N42.blk
      have hb := hb.trans (below_g g hs.base_le)
      have hs := hs.grow g
      have hz0 := hs.base_le
      refine sr_append rfl el_sl_api_Token ze_api_Token rfl (by decide) (ev_t rfl) hs.ht (ev_t rfl) rfl N42.blk.row rfl (by simp only [maxLen]; omega) (by omega) (by omega) ?_
      intro ta' tc' w43 ht' hg43 hat
      have hB := hs.B.keep hg43 (Ne.symm hs.n1)
      have hz := hg43.size
      refine sr_pu rfl (fun _ => rd_nil (ev_t rfl)) ?_
      refine sr_pu rfl (fun _ => rd_field fo_scan_scanner_2 (ev_t rfl)) ?_
      refine sr_store rfl sz_sl_api_Token (ev_t rfl) (ev_t rfl) rfl rfl hB rfl rfl ?_
      intro w44 hg44 hz44 hB
      have hb := below_only (below_only hb hg43 hs.base_le (fun k hk => (hs.ht.lt k hk).1)) hg44 (by have := hs.base_le; omega) (fun k hk => by injection hk with hk; have := hs.hb; omega)
      have hs := hs.putT (t := ⟨4, [59], p⟩) ht' hg43 hat hg44 hB
      have g := G.refl w44
      refine sr_sub [(0, _, _)] (sub_cons rfl (sub_nil _)) ?_
      refine sr_nil (hK1 _ _ ?_)
      refine sc_text [3, 3, 3, 0, 3, 3, 3, 2] ?_
      refine sr_pu rfl (fun _ => rd_move (ev_t rfl)) ?_
      refine sr_pu rfl (fun _ => rd_nil (ev_t rfl)) ?_
      refine sr_pu rfl (fun _ => rd_field fo_scan_scanner_1 (ev_t rfl)) ?_
      refine sr_rd rfl (rd_load one_int (ev_t rfl) (fun _ => by first | exact (hs.grow g).B.at_ rfl | exact B3.at_ rfl | exact B3.row | exact B42.at_ rfl | exact B42.row)) ?_
      refine sr_pu rfl (fun _ => rd_add (ev_t rfl) ev_c (fun _ => by omega)) ?_
      refine sr_pu rfl (fun _ => rd_nil (ev_t rfl)) ?_
      refine sr_pu rfl (fun _ => rd_field fo_scan_scanner_1 (ev_t rfl)) ?_
      refine sr_store rfl sz_int (ev_t rfl) (ev_t rfl) rfl rfl (hs.grow g).B rfl rfl ?_
      intro w52 hg52 hz52 hB
      have hb := below_go hb g hg52 hs.base_le hs.hb
      have hs := (hs.grow g).setp (q := p + 1) hg52 hB
      refine sr_sub [] (sub_nil _) ?_
      refine sr_nil (t_end0 rfl ?_)
      refine ⟨rfl, ?_, hb⟩
      rw [hne] at hl ⊢
      exact hs.scn hl (by omega) (by omega) k4
    rw [if_neg (by intro h; rw [endsT, h2] at h; cases h)] at hne
    have hl : (nlTs p (ts0 ++ [t])).length ≤ p + 1 := by rw [hne]; omega
    refine sc_skip (hK1 _ _ ?_)
    refine sc_sub [(0, _, _)] (sub_cons rfl (sub_nil _)) ?_
    refine sc_text [3, 3, 3, 0, 3, 3, 3, 2] ?_
    refine sr_pu rfl (fun _ => rd_move (ev_t rfl)) ?_
    refine sr_pu rfl (fun _ => rd_nil (ev_t rfl)) ?_
    refine sr_pu rfl (fun _ => rd_field fo_scan_scanner_1 (ev_t rfl)) ?_
    refine sr_rd rfl (rd_load one_int (ev_t rfl) (fun _ => by first | exact (hs.grow g).B.at_ rfl | exact B3.at_ rfl | exact B3.row)) ?_
    refine sr_pu rfl (fun _ => rd_add (ev_t rfl) ev_c (fun _ => by omega)) ?_
    refine sr_pu rfl (fun _ => rd_nil (ev_t rfl)) ?_
    refine sr_pu rfl (fun _ => rd_field fo_scan_scanner_1 (ev_t rfl)) ?_
    refine sr_store rfl sz_int (ev_t rfl) (ev_t rfl) rfl rfl (hs.grow g).B rfl rfl ?_
    intro w52 hg52 hz52 hB
    have hb := below_go hb g hg52 hs.base_le hs.hb
    have hs := (hs.grow g).setp (q := p + 1) hg52 hB
    refine sr_sub [] (sub_nil _) ?_
    refine sr_nil (t_end0 rfl ?_)
    refine ⟨rfl, ?_, hb⟩
    rw [hne] at hl ⊢
    exact hs.scn hl (by omega) (by omega) k4
  have hp : ts = [] := List.eq_nil_of_length_eq_zero (by simp only [decide_eq_false_iff_not] at h1; omega)
  have hne : nlTs p ts = ts := by rw [hp]; rfl
  have hl : (nlTs p ts).length ≤ p + 1 := by rw [hne]; omega
  refine sc_skip (hK1 _ _ ?_)
  refine sc_sub [(0, _, _)] (sub_cons rfl (sub_nil _)) ?_
  refine sc_text [3, 3, 3, 0, 3, 3, 3, 2] ?_
  refine sr_pu rfl (fun _ => rd_move (ev_t rfl)) ?_
  refine sr_pu rfl (fun _ => rd_nil (ev_t rfl)) ?_
  refine sr_pu rfl (fun _ => rd_field fo_scan_scanner_1 (ev_t rfl)) ?_
  refine sr_rd rfl (rd_load one_int (ev_t rfl) (fun _ => by first | exact (hs.grow g).B.at_ rfl)) ?_
  refine sr_pu rfl (fun _ => rd_add (ev_t rfl) ev_c (fun _ => by omega)) ?_
  refine sr_pu rfl (fun _ => rd_nil (ev_t rfl)) ?_
  refine sr_pu rfl (fun _ => rd_field fo_scan_scanner_1 (ev_t rfl)) ?_
  refine sr_store rfl sz_int (ev_t rfl) (ev_t rfl) rfl rfl (hs.grow g).B rfl rfl ?_
  intro w52 hg52 hz52 hB
  have hb := below_go hb g hg52 hs.base_le hs.hb
  have hs := (hs.grow g).setp (q := p + 1) hg52 hB
  refine sr_sub [] (sub_nil _) ?_
  refine sr_nil (t_end0 rfl ?_)
  refine ⟨rfl, ?_, hb⟩
  rw [hne] at hl ⊢
  exact hs.scn hl (by omega) (by omega) k4
end Go.Rk
