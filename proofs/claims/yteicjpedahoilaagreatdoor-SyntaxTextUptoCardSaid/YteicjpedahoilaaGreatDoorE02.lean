/- Merged texts of one road: EngT, Nest, Facts, ScanA, ScanB. Conditions: each text's own. -/
import Derived.Test.YteicjpedahoilaaGreatDoorE01
import Derived.Test.YteicjpedahoilaaGreatDoorProg
import Derived.KernelRfl
set_option linter.unusedSimpArgs false
set_option linter.unusedVariables false
namespace Go.Rk
open Go Go.RowKit
set_option linter.unusedVariables false
abbrev GX (row : Option Nat) (w w' : World) : Prop := w.grownBy w' row
theorem GX.refl (row : Option Nat) (w : World) : GX row w w := (G.refl w).only row
def EffQ (P : Program) (Z : List PanicEntry → Act → World → Prop) (row : Option Nat) (gr : Bool) (o : Oper) (a : Act) (w : World) (next : Act → World → Prop) : Prop :=
 (∃ v w', (execOp a.eval o).run P w = .ok (.value v) w' ∧ (gr = true → GX row w w') ∧ next (a.put o.dst v) w') ∨
 (∃ w', (execOp a.eval o).run P w = .ok .skip w' ∧ (gr = true → GX row w w') ∧ next (a.put o.dst undef) w') ∨
 (∃ f args, (execOp a.eval o).run P w = .ok (.enter f args) w ∧ Calls P f args w fun e w' => (∃ v, e = .returned v ∧ (gr = true → GX row w w') ∧ next (a.put o.dst v) w') ∨ (∃ ch, e = .panicked ch ∧ Z ch a w')) ∨
 (∃ l f tmps asg body, (execOp a.eval o).run P w = .ok (.round l f tmps asg body) w ∧ RoundIn Fence.wide 0 P l f tmps asg body w fun e w' => ∃ v, e = .returned v ∧ (gr = true → GX row w w') ∧ next (a.put o.dst v) w')
theorem EffQ.wpIn {P : Program} {Z : List PanicEntry → Act → World → Prop} {row : Option Nat} {gr : Bool} {o : Oper} {a : Act} {w : World} {next : Act → World → Prop} {Q : Exit → Act → World → Prop} {ρ : Option Nat}
  (h : EffQ P Z row gr o a w next) (hZ : ∀ ch w', Z ch a w' → Q (.panic ch) a w') : o.wpIn (WF ρ) 0 P a w next Q := by
 refine Eff.wpIn (Z := Z) (gr := false) ?_ hZ
 rcases h with ⟨v, w', hr, _, hn⟩ | ⟨w', hr, _, hn⟩ | ⟨f, args, hr, hc⟩ | ⟨l, f, tmps, asg, body, hr, hc⟩
 ·exact .inl ⟨v, w', hr, (fun h => by cases h), hn⟩
 ·exact .inr (.inl ⟨w', hr, (fun h => by cases h), hn⟩)
 ·refine .inr (.inr (.inl ⟨f, args, hr, Calls.mono hc fun e w' h => ?_⟩))
  rcases h with ⟨v, e1, _, h1⟩ | ⟨ch, e1, h1⟩
  ·exact .inl ⟨v, e1, (fun h => by cases h), h1⟩
  ·exact .inr ⟨ch, e1, h1⟩
 ·refine .inr (.inr (.inr ⟨l, f, tmps, asg, body, hr, RoundIn.mono hc fun e w' h => ?_⟩))
  obtain ⟨v, e1, _, h1⟩ := h
  exact ⟨v, e1, (fun h => by cases h), h1⟩
theorem EffQ.turn {P : Program} {Z Z' : List PanicEntry → Act → World → Prop} {row : Option Nat} {gr : Bool} {o : Oper} {a b : Act} {w : World} {next next' : Act → World → Prop} (he : execOp b.eval o = execOp a.eval o)
  (hz : ∀ ch w', Z ch a w' → Z' ch b w')
  (hn : ∀ v w', (gr = true → GX row w w') → next (a.put o.dst v) w' → next' (b.put o.dst v) w') (h : EffQ P Z row gr o a w next) : EffQ P Z' row gr o b w next' := by
 rcases h with ⟨v, w', hr, hg, h1⟩ | ⟨w', hr, hg, h1⟩ | ⟨f, args, hr, hc⟩ | ⟨l, f, tmps, asg, body, hr, hc⟩
 ·exact .inl ⟨v, w', by rw [he]; exact hr, hg, hn _ _ hg h1⟩
 ·exact .inr (.inl ⟨w', by rw [he]; exact hr, hg, hn _ _ hg h1⟩)
 ·refine .inr (.inr (.inl ⟨f, args, by rw [he]; exact hr, Calls.mono hc fun e w' h => ?_⟩))
  rcases h with ⟨v, e1, hg, h1⟩ | ⟨ch, e1, h1⟩
  ·exact .inl ⟨v, e1, hg, hn _ _ hg h1⟩
  ·exact .inr ⟨ch, e1, hz _ _ h1⟩
 ·refine .inr (.inr (.inr ⟨l, f, tmps, asg, body, by rw [he]; exact hr, RoundIn.mono hc fun e w' h => ?_⟩))
  obtain ⟨v, e1, hg, h1⟩ := h
  exact ⟨v, e1, hg, hn _ _ hg h1⟩
def Avail (wt : Nat → Nat → Bool) (L : List Nat) (j : Nat) : Prop := ∀ i ∈ L, wt j i = false
section
variable (P : Program) (Z : List PanicEntry → Act → World → Prop) (ops : Array Oper) (cl : Nat → Nat) (wt : Nat → Nat → Bool) (row : Option Nat) (K : Act → World → Prop)
def RT : Nat → List Nat → Act → World → Prop
 | 0, L, a, w => L = [] ∧ K a w
 | n + 1, L, a, w =>
  (∃ r, r ∈ L ∧ Avail wt L r ∧ (cl r = 0 ∨ cl r = 3) ∧ ∃ o, ops[r]? = some o ∧ ∃ v, (Region.wanted o (yielded ops a.tmps) = true → ∀ w1, cl r = 3 ∨ GX row w w1 → (execOp a.eval o).run P w1 = .ok (.value v) w1) ∧
   (Region.wanted o (yielded ops a.tmps) = false → v = undef) ∧ RT n (L.erase r) (a.put o.dst v) w) ∨
  ((∀ r ∈ L, Avail wt L r → ¬ (cl r = 0 ∨ cl r = 3)) ∧ ∀ j ∈ L, Avail wt L j → ∃ o, ops[j]? = some o ∧
   if Region.wanted o (yielded ops a.tmps) = true then EffQ P Z row (cl j == 1) o a w (fun a' w' => RT n (L.erase j) a' w') else RT n (L.erase j) (a.put o.dst undef) w)
end
section
variable {P : Program} {Z : List PanicEntry → Act → World → Prop} {ops : Array Oper} {cl : Nat → Nat} {wt : Nat → Nat → Bool} {row : Option Nat} {K : Act → World → Prop}
structure OkayT (ops : Array Oper) (cl : Nat → Nat) (wt : Nat → Nat → Bool) : Prop where
 sel : ∀ (j : Nat) (o : Oper) cs b, ops[j]? = some o → o.op ≠ .select cs b
 way : ∀ (j : Nat) (o : Oper) (i : Nat), ops[j]? = some o → wt j i = true → ∃ e, e ∈ o.after ∧ Region.binds .any e = true ∧ (e.on = i ∨ wt e.on i = true)
 lt : ∀ (j : Nat) (o : Oper) (e : Edge), ops[j]? = some o → e ∈ o.after → Region.binds .any e = true → e.on < j
 pair : ∀ (i j : Nat) (oi oj : Oper), i < j → ops[i]? = some oi → ops[j]? = some oj → wt j i = false → (¬ (cl i = 0 ∨ cl i = 3) ∧ ¬ (cl j = 0 ∨ cl j = 3)) ∨ (oi.apart ops oj = true ∧ (cl i = 3 ∨ cl j = 3 ∨ (cl i = 0 ∧ cl j ≤ 1) ∨ (cl j = 0 ∧ cl i ≤ 1)))
theorem OkayT.both (ok : OkayT ops cl wt) {r j : Nat} {or oj : Oper} (hr : ops[r]? = some or) (hj : ops[j]? = some oj) (hne : r ≠ j) (h1 : wt r j = false) (h2 : wt j r = false) (hc : cl r = 0 ∨ cl r = 3) :
  ((∀ d, or.dst = some d → d ∉ oj.looksAt ops) ∧ (∀ d, or.dst = some d → oj.dst ≠ some d) ∧ (∀ d, oj.dst = some d → d ∉ or.looksAt ops)) ∧ (cl r = 3 ∨ (cl r = 0 ∧ (cl j = 3 ∨ cl j ≤ 1))) := by
 rcases Nat.lt_or_gt_of_ne hne with hlt | hlt
 ·rcases ok.pair r j or oj hlt hr hj h2 with h | ⟨h, hh⟩
  ·exact absurd hc h.1
  ·refine ⟨Oper.apart_spec h, ?_⟩
   rcases hc with hc | hc
   ·right; refine ⟨hc, ?_⟩; omega
   ·exact .inl hc
 ·rcases ok.pair j r oj or hlt hj hr h1 with h | ⟨h, hh⟩
  ·exact absurd hc h.2
  ·obtain ⟨p1, p2, p3⟩ := Oper.apart_spec h
   refine ⟨⟨p3, fun d hd he => p2 d he hd, p1⟩, ?_⟩
   rcases hc with hc | hc
   ·right; refine ⟨hc, ?_⟩; omega
   ·exact .inl hc
theorem Avail.erase {L : List Nat} {j r : Nat} (h : Avail wt L j) : Avail wt (L.erase r) j := fun i hi => h i (List.mem_of_mem_erase hi)
theorem gx_trans {row : Option Nat} {a b c : World} (h : GX row a b) (k : GX row b c) : GX row a c := Zyb h k
theorem front_rdT (ok : OkayT ops cl wt) {j : Nat} {oj : Oper} (hj : ops[j]? = some oj) (hcj : cl j = 0 ∨ cl j = 3) :
  ∀ (n : Nat) (L : List Nat) (a : Act) (w : World), L.length = n + 1 → L.Nodup → j ∈ L → Avail wt L j → RT P Z ops cl wt row K (n + 1) L a w →
  ∃ v, (Region.wanted oj (yielded ops a.tmps) = true → ∀ w1, cl j = 3 ∨ GX row w w1 → (execOp a.eval oj).run P w1 = .ok (.value v) w1) ∧
   (Region.wanted oj (yielded ops a.tmps) = false → v = undef) ∧ RT P Z ops cl wt row K n (L.erase j) (a.put oj.dst v) w := by
 intro n
 induction n with
 | zero =>
  intro L a w hn nd hm hav h
  obtain ⟨x, rfl⟩ : ∃ x, L = [x] := List.length_eq_one_iff.1 hn
  obtain rfl : j = x := List.mem_singleton.1 hm
  rcases h with ⟨r, hr, hra, hc, o, ho, v, h1, h2, h3⟩ | ⟨hno, _⟩
  ·obtain rfl : r = j := List.mem_singleton.1 hr
   obtain rfl : o = oj := Option.some.inj (ho.symm.trans hj)
   exact ⟨v, h1, h2, h3⟩
  ·exact absurd hcj (hno j hm hav)
 | succ n ih =>
  intro L a w hn nd hm hav h
  rcases h with ⟨r, hr, hra, hc, o, ho, u, h1, h2, h3⟩ | ⟨hno, _⟩
  ·by_cases hrj : r = j
   ·subst hrj
    obtain rfl : o = oj := Option.some.inj (ho.symm.trans hj)
    exact ⟨u, h1, h2, h3⟩
   ·obtain ⟨⟨p1, p2, p3⟩, _⟩ := ok.both ho hj hrj (hra j hm) (hav r hr) hc
    have evj : ∀ v, execOp (a.put o.dst v).eval oj = execOp a.eval oj := fun v => execOp_put (ops := ops) oj (fun cs b => ok.sel j oj cs b hj) a o.dst v p1
    have waj : ∀ v, Region.wanted oj (yielded ops (a.put o.dst v).tmps) = Region.wanted oj (yielded ops a.tmps) := fun v => wanted_put oj a o.dst v p1
    have evi : ∀ v, execOp (a.put oj.dst v).eval o = execOp a.eval o := fun v => execOp_put (ops := ops) o (fun cs b => ok.sel r o cs b ho) a oj.dst v p3
    have wai : ∀ v, Region.wanted o (yielded ops (a.put oj.dst v).tmps) = Region.wanted o (yielded ops a.tmps) := fun v => wanted_put o a oj.dst v p3
    have hmj : j ∈ L.erase r := nd.mem_erase_iff.2 ⟨fun h => hrj h.symm, hm⟩
    have hmr : r ∈ L.erase j := nd.mem_erase_iff.2 ⟨hrj, hr⟩
    obtain ⟨v, k1, k2, k3⟩ := ih (L.erase r) _ w (by rw [List.length_erase_of_mem hr]; omega) (nd.erase r) hmj hav.erase h3
    rw [waj] at k1 k2
    rw [evj] at k1
    refine ⟨v, k1, k2, .inl ⟨r, hmr, hra.erase, hc, o, ho, u, ?_, ?_, ?_⟩⟩
    ·rw [wai, evi]; exact h1
    ·rw [wai]; exact h2
    ·rw [List.erase_comm, ← Act.put_comm a u v p2]; exact k3
  ·exact absurd hcj (hno j hm hav)
theorem front_effT (hZs : ∀ ch (a : Act) d v w, Z ch (a.put d v) w → Z ch a w) (ok : OkayT ops cl wt) {j : Nat} {oj : Oper} (hj : ops[j]? = some oj) (hcj : ¬ (cl j = 0 ∨ cl j = 3)) :
  ∀ (n : Nat) (L : List Nat) (a : Act) (w : World), L.length = n + 1 → L.Nodup → j ∈ L → Avail wt L j → RT P Z ops cl wt row K (n + 1) L a w →
  if Region.wanted oj (yielded ops a.tmps) = true then EffQ P Z row (cl j == 1) oj a w (fun a' w' => RT P Z ops cl wt row K n (L.erase j) a' w')
  else RT P Z ops cl wt row K n (L.erase j) (a.put oj.dst undef) w := by
 intro n
 induction n with
 | zero =>
  intro L a w hn nd hm hav h
  obtain ⟨x, rfl⟩ : ∃ x, L = [x] := List.length_eq_one_iff.1 hn
  obtain rfl : j = x := List.mem_singleton.1 hm
  rcases h with ⟨r, hr, hra, hc, _⟩ | ⟨_, hall⟩
  ·obtain rfl : r = j := List.mem_singleton.1 hr
   exact absurd hc hcj
  ·obtain ⟨o, ho, hb⟩ := hall j hm hav
   obtain rfl : o = oj := Option.some.inj (ho.symm.trans hj)
   exact hb
 | succ n ih =>
  intro L a w hn nd hm hav h
  rcases h with ⟨r, hr, hra, hc, o, ho, u, h1, h2, h3⟩ | ⟨_, hall⟩
  ·have hrj : r ≠ j := fun e => hcj (e ▸ hc)
   obtain ⟨⟨p1, p2, p3⟩, hq⟩ := ok.both ho hj hrj (hra j hm) (hav r hr) hc
   have evj : ∀ v, execOp (a.put o.dst v).eval oj = execOp a.eval oj := fun v => execOp_put (ops := ops) oj (fun cs b => ok.sel j oj cs b hj) a o.dst v p1
   have waj : ∀ v, Region.wanted oj (yielded ops (a.put o.dst v).tmps) = Region.wanted oj (yielded ops a.tmps) := fun v => wanted_put oj a o.dst v p1
   have evi : ∀ v, execOp (a.put oj.dst v).eval o = execOp a.eval o := fun v => execOp_put (ops := ops) o (fun cs b => ok.sel r o cs b ho) a oj.dst v p3
   have wai : ∀ v, Region.wanted o (yielded ops (a.put oj.dst v).tmps) = Region.wanted o (yielded ops a.tmps) := fun v => wanted_put o a oj.dst v p3
   have hmj : j ∈ L.erase r := nd.mem_erase_iff.2 ⟨fun h => hrj h.symm, hm⟩
   have hmr : r ∈ L.erase j := nd.mem_erase_iff.2 ⟨hrj, hr⟩
   have k := ih (L.erase r) _ w (by rw [List.length_erase_of_mem hr]; omega) (nd.erase r) hmj hav.erase h3
   rw [waj] at k
   have back : ∀ x w', (cl j = 1 → GX row w w') → RT P Z ops cl wt row K n ((L.erase r).erase j) ((a.put o.dst u).put oj.dst x) w' → RT P Z ops cl wt row K (n + 1) (L.erase j) (a.put oj.dst x) w' := by
    intro x w' hg hk
    refine .inl ⟨r, hmr, hra.erase, hc, o, ho, u, ?_, ?_, ?_⟩
    ·rw [wai, evi]
     intro hw w1 hg1
     refine h1 hw w1 ?_
     rcases hg1 with hg1 | hg1
     ·exact .inl hg1
     ·rcases hq with hq | ⟨_, hq⟩
      ·exact .inl hq
      ·refine .inr (gx_trans (hg ?_) hg1)
       have : ¬ cl j = 0 := fun e => hcj (.inl e)
       have : ¬ cl j = 3 := fun e => hcj (.inr e)
       omega
    ·rw [wai]; exact h2
    ·rw [List.erase_comm, ← Act.put_comm a u x p2]; exact hk
   by_cases hwj : Region.wanted oj (yielded ops a.tmps) = true
   ·rw [if_pos hwj] at k ⊢
    exact k.turn (evj u).symm (fun ch w' h => hZs _ _ _ _ _ h) fun x w' hg hk => back x w' (fun h => hg (by simp [h])) hk
   ·rw [if_neg hwj] at k ⊢
    exact back _ _ (fun _ => GX.refl _ _) k
  ·obtain ⟨o, ho, hb⟩ := hall j hm hav
   obtain rfl : o = oj := Option.some.inj (ho.symm.trans hj)
   exact hb
theorem Left.waitsT (ok : OkayT ops cl wt) {L : List Nat} {listed : Array Bool} (hL : Left ops L listed) :
  ∀ (n j : Nat) (oj : Oper), j ≤ n → ops[j]? = some oj → (∀ e ∈ oj.after, Region.binds .any e = true → e.on ∉ L) → ∀ i ∈ L, wt j i = false := by
 intro n
 induction n with
 | zero =>
  intro j oj hjn hj _ i _
  cases hw : wt j i with
  | false => rfl
  | true =>
   obtain ⟨e, he, hb, _⟩ := ok.way j oj i hj hw
   have := ok.lt j oj e hj he hb
   omega
 | succ n ih =>
  intro j oj hjn hj hall i hi
  cases hw : wt j i with
  | false => rfl
  | true =>
   obtain ⟨e, he, hb, hh⟩ := ok.way j oj i hj hw
   have hlt := ok.lt j oj e hj he hb
   have hnot := hall e he hb
   rcases hh with rfl | hh
   ·exact absurd hi hnot
   ·have hes : e.on < ops.size := by have := (Array.getElem?_eq_some_iff.1 hj).1; omega
    have hoe : ops[e.on]? = some ops[e.on] := Array.getElem?_eq_getElem hes
    have := ih e.on _ (by omega) hoe (hL.closed e.on _ hoe hnot) i hi
    rw [this] at hh; cases hh
theorem any_of_RT {ρ : Option Nat} (hZs : ∀ ch (a : Act) d v w, Z ch (a.put d v) w → Z ch a w) (ok : OkayT ops cl wt) {Q : Exit → Act → World → Prop} (hQ : ∀ a w, K a w → Q .normal a w) (hZ : ∀ ch a w, Z ch a w → Q (.panic ch) a w) :
  ∀ (n : Nat) (L : List Nat) (listed : Array Bool) (a : Act) (w : World), L.length = n → Left ops L listed → RT P Z ops cl wt row K n L a w → wpAnyIn (WF ρ) 0 P .any ops Q n listed a w := by
 intro n
 induction n with
 | zero =>
  intro L listed a w hn hL h
  obtain rfl : L = [] := List.eq_nil_of_length_eq_zero hn
  refine ⟨?_, hQ _ _ h.2⟩
  refine List.eq_nil_iff_forall_not_mem.2 fun j hj => ?_
  obtain ⟨h0, o, ho, _⟩ := mem_ready.1 hj
  have := (hL.mem j).2 ⟨(Array.getElem?_eq_some_iff.1 ho).1, h0⟩
  cases this
 | succ n ih =>
  intro L listed a w hn hL h
  have nd : L.Nodup := hL.sorted.imp (fun h => Nat.ne_of_lt h)
  have inL : ∀ j, j ∈ Region.ready .any ops listed → ∃ oj, ops[j]? = some oj ∧ j ∈ L ∧ ∀ e ∈ oj.after, Region.binds .any e = true → e.on ∉ L := by
   intro j hj
   obtain ⟨h0, oj, ho, hall⟩ := mem_ready.1 hj
   have hjs := (Array.getElem?_eq_some_iff.1 ho).1
   refine ⟨oj, ho, (hL.mem j).2 ⟨hjs, h0⟩, fun e he hb hm => ?_⟩
   have h1 := hall e he hb
   obtain ⟨h2, h3⟩ := (hL.mem e.on).1 hm
   have h4 : e.on < listed.size := by rw [hL.size]; exact h2
   simp [h4] at h1 h3
   rw [h1] at h3; cases h3
  refine ⟨fun h0 => ?_, fun j hj => ?_⟩
  ·exfalso
   match L, hn, hL with
   | i :: rest, _, hL =>
    have him := (hL.mem i).1 List.mem_cons_self
    have hoi : ops[i]? = some ops[i] := Array.getElem?_eq_getElem him.1
    have : i ∈ Region.ready .any ops listed := by
     refine mem_ready.2 ⟨him.2, _, hoi, fun e he hb => ?_⟩
     have hlt := ok.lt i _ e hoi he hb
     have hno : e.on ∉ i :: rest := by
      intro hm
      rcases List.mem_cons.1 hm with hm | hm
      ·omega
      ·have := (List.pairwise_cons.1 hL.sorted).1 _ hm; omega
     have hes : e.on < listed.size := by rw [hL.size]; omega
     cases hl : listed.getD e.on true with
     | false => exact absurd ((hL.mem e.on).2 ⟨by rw [← hL.size]; exact hes, hl⟩) hno
     | true => simpa [hes] using hl
    rw [h0] at this; cases this
  ·obtain ⟨oj, hoj, hjL, hall⟩ := inL j hj
   have hws : ∀ i ∈ L, wt j i = false := hL.waitsT ok j j oj (Nat.le_refl _) hoj hall
   have hL' := hL.step hoj hall
   have hlen : (L.erase j).length = n := by rw [List.length_erase_of_mem hjL]; omega
   unfold wpOpIn
   simp only [hoj]
   by_cases hc : cl j = 0 ∨ cl j = 3
   ·obtain ⟨v, h1, h2, h3⟩ := front_rdT ok hoj hc n L a w hn nd hjL hws h
    have hnext := ih (L.erase j) _ (a.put oj.dst v) w hlen hL' h3
    by_cases hwj : Region.wanted oj (yielded ops a.tmps) = true
    ·rw [if_pos hwj]
     have hr := h1 hwj w (.inr (GX.refl _ _))
     refine ⟨fun _ _ => trivial, ?_⟩
     rw [Xoa hr (fun d h => by cases h), hr]
     exact hnext
    ·rw [if_neg hwj]
     have := h2 (by simpa using hwj)
     subst this
     exact ⟨fun _ _ => trivial, hnext⟩
   ·have h1 := front_effT hZs ok hoj hc n L a w hn nd hjL hws h
    by_cases hwj : Region.wanted oj (yielded ops a.tmps) = true
    ·rw [if_pos hwj] at h1 ⊢
     refine EffQ.wpIn (Z := Z) (gr := cl j == 1) (row := row) ?_ (fun ch w' h => hZ _ _ _ h)
     exact h1.turn rfl (fun _ _ h => h) fun v w' _ hk => ih (L.erase j) _ _ w' hlen hL' hk
    ·rw [if_neg hwj] at h1 ⊢
     exact ⟨fun _ _ => trivial, ih (L.erase j) _ _ w hlen hL' h1⟩
theorem wpIn_drawT {ρ : Option Nat} (hZs : ∀ ch (a : Act) d v w, Z ch (a.put d v) w → Z ch a w) (ok : OkayT ops cl wt) {id : Nat} {Q : Exit → Act → World → Prop} (hZ : ∀ ch a w, Z ch a w → Q (.panic ch) a w) {a : Act} {w : World} (hm : P.follows .mixedOrders = true)
  (h : RT P Z ops cl wt row (fun a w => Q .normal a w) ops.size (List.range ops.size) a w.drew) : (Code.region id ops true).wpIn (WF ρ) 0 P Q a w := by
 refine wpIn_region_any hm ?_
 have := any_of_RT (Q := Q) (ρ := ρ) hZs ok (fun _ _ h => h) hZ ops.size (List.range ops.size) (Array.replicate ops.size false) a w.drew (by simp) (Jkb ops) h
 simpa using this
theorem wp_drawT (ok : OkayT ops cl wt) {id : Nat} {Q : Exit → Act → World → Prop} {a : Act} {w : World} (hm : P.follows .mixedOrders = true)
  (h : RT P NoP ops cl wt row (fun a w => Q .normal a w) ops.size (List.range ops.size) a w.drew) : (Code.region id ops true).wp P Q a w :=
 wpIn_wide.1 (wpIn_drawT (ρ := none) (fun _ _ _ _ _ h => h) ok (fun _ _ _ h => h.elim) hm h)
end

/-! a look at the region's text -/
def Jtb (ops : Array Oper) (cl : List Nat) (ms : List Nat) (E : List (Nat × Oper × Nat)) (k : Nat) (o : Oper) : Bool :=
 noSel o && o.after.toList.all (fun e => !Region.binds .any e || Nat.blt e.on k) && Nat.beq (ms.getD k 0) (maskOf ms o.after.toList) &&
 E.all (fun p => (ms.getD k 0).testBit p.1 || (!(Nat.beq p.2.2 0 || Nat.beq p.2.2 3) && !(Nat.beq (clOf cl k) 0 || Nat.beq (clOf cl k) 3)) || (p.2.1.apart ops o && (Nat.beq p.2.2 3 || Nat.beq (clOf cl k) 3 || (Nat.beq p.2.2 0 && Nat.ble (clOf cl k) 1) || (Nat.beq (clOf cl k) 0 && Nat.ble p.2.2 1))))
def lookFromT (ops : Array Oper) (cl : List Nat) (ms : List Nat) : List (Nat × Oper × Nat) → Nat → List Oper → Bool
 | _, _, [] => true
 | E, k, o :: rest => Jtb ops cl ms E k o && lookFromT ops cl ms ((k, o, clOf cl k) :: E) (k + 1) rest
def okT (l : List Oper) (cl : List Nat) (ms : List Nat) : Bool := lookFromT l.toArray cl ms [] 0 l && Nat.ble ms.length l.length
theorem Qta (ops : Array Oper) (cl : List Nat) (ms : List Nat) : ∀ (l : List Oper) (E : List (Nat × Oper × Nat)) (k : Nat),
  (∀ j, l[j]? = ops[k + j]?) → (∀ i, i < k → ∃ oi, ops[i]? = some oi ∧ (i, oi, clOf cl i) ∈ E) → lookFromT ops cl ms E k l = true →
  ∀ j oj, k ≤ j → ops[j]? = some oj → ∃ E', (∀ i, i < j → ∃ oi, ops[i]? = some oi ∧ (i, oi, clOf cl i) ∈ E') ∧ Jtb ops cl ms E' j oj = true
 | [], _, k, hl, _, _ => by
  intro j oj hkj hj
  have := hl (j - k)
  rw [show k + (j - k) = j by omega, hj] at this
  simp at this
 | o :: rest, E, k, hl, hE, h => by
  intro j oj hkj hj
  unfold lookFromT at h
  rw [Bool.and_eq_true] at h
  have h0 : ops[k]? = some o := by simpa using (hl 0).symm
  by_cases hjk : j = k
  ·subst hjk
   obtain rfl : o = oj := Option.some.inj (h0.symm.trans hj)
   exact ⟨E, hE, h.1⟩
  ·refine Qta ops cl ms rest ((k, o, clOf cl k) :: E) (k + 1) (fun j => by have := hl (j + 1); simpa [Nat.add_assoc, Nat.add_comm 1 j] using this) ?_ h.2 j oj (by omega) hj
   intro i hi
   by_cases hik : i = k
   ·subst hik
    exact ⟨o, h0, List.mem_cons_self⟩
   ·obtain ⟨oi, h1, h2⟩ := hE i (by omega)
    exact ⟨oi, h1, List.mem_cons_of_mem _ h2⟩
theorem okayT_of {l : List Oper} {cl : List Nat} {ms : List Nat} (h : okT l cl ms = true) : OkayT l.toArray (clOf cl) (wtOf ms) := by
 unfold okT at h
 rw [Bool.and_eq_true] at h
 obtain ⟨h, hml⟩ := h
 have S := Qta l.toArray cl ms l [] 0 (by simp) (fun i hi => absurd hi (by omega)) h
 have at_ : ∀ j oj, l.toArray[j]? = some oj → ∃ E', (∀ i, i < j → ∃ oi, l.toArray[i]? = some oi ∧ (i, oi, clOf cl i) ∈ E') ∧ Jtb l.toArray cl ms E' j oj = true := fun j oj hj => S j oj (Nat.zero_le _) hj
 refine ⟨?_, ?_, ?_, ?_⟩
 ·intro j o cs b hj heq
  obtain ⟨E', _, hh⟩ := at_ j o hj
  simp [Jtb, noSel, heq] at hh
 ·intro j o i hj hw
  obtain ⟨E', _, hh⟩ := at_ j o hj
  simp only [Jtb, Bool.and_eq_true] at hh
  have hm := Nat.eq_of_beq_eq_true hh.1.2
  unfold wtOf at hw
  rw [hm] at hw
  obtain ⟨e, h1, h2⟩ := Jwa ms i _ hw
  exact ⟨e, Array.mem_toList_iff.1 h1, h2⟩
 ·intro j o e hj he hb
  obtain ⟨E', _, hh⟩ := at_ j o hj
  simp only [Jtb, Bool.and_eq_true, List.all_eq_true, Array.mem_toList_iff, Bool.or_eq_true, Bool.not_eq_true'] at hh
  rcases hh.1.1.2 e he with h1 | h1
  ·rw [hb] at h1; cases h1
  ·exact Nat.le_of_ble_eq_true h1
 ·intro i j oi oj hij hi hj hw
  obtain ⟨E', hE, hh⟩ := at_ j oj hj
  simp only [Jtb, Bool.and_eq_true, List.all_eq_true] at hh
  obtain ⟨oi', h1, h2⟩ := hE i hij
  obtain rfl : oi' = oi := Option.some.inj (h1.symm.trans hi)
  have h3 := hh.2 _ h2
  unfold wtOf at hw
  dsimp only at h3
  rw [hw] at h3
  have e : ∀ (a b : Nat), Nat.beq a b = true ↔ a = b := fun a b => ⟨Nat.eq_of_beq_eq_true, fun h => by subst h; exact Nat.beq_refl a⟩
  have e' : ∀ (a b : Nat), Nat.ble a b = true ↔ a ≤ b := fun a b => ⟨Nat.le_of_ble_eq_true, Nat.ble_eq_true_of_le⟩
  simp only [Bool.false_or, Bool.or_eq_true, Bool.and_eq_true, Bool.not_eq_true', ← Bool.not_eq_true, e, e'] at h3
  rcases h3 with h3 | ⟨ha, h3⟩
  ·exact .inl ⟨h3.1, h3.2⟩
  ·refine .inr ⟨ha, ?_⟩
   rcases h3 with ((h3 | h3) | h3) | h3
   ·exact .inl h3
   ·exact .inr (.inl h3)
   ·exact .inr (.inr (.inl h3))
   ·exact .inr (.inr (.inr h3))
/-! the steps -/
def isRdB (cl : List Nat) (j : Nat) : Bool := Nat.beq (clOf cl j) 0 || Nat.beq (clOf cl j) 3
def availB (ms : List Nat) (L : List Nat) (j : Nat) : Bool := L.all fun i => !(wtOf ms j i)
def candB (cl ms L : List Nat) : List Nat := L.filter fun j => availB ms L j
theorem Zbb (ms : List Nat) (L : List Nat) (j : Nat) : availB ms L j = true ↔ Avail (wtOf ms) L j := by
 unfold availB Avail; simp [List.all_eq_true]
theorem isRdB_iff (cl : List Nat) (j : Nat) : isRdB cl j = true ↔ (clOf cl j = 0 ∨ clOf cl j = 3) := by
 unfold isRdB; rw [Bool.or_eq_true]
 exact ⟨fun h => h.imp Nat.eq_of_beq_eq_true Nat.eq_of_beq_eq_true, fun h => h.imp (fun e => by rw [e]; rfl) (fun e => by rw [e]; rfl)⟩
def ST (P : Program) (Z : List PanicEntry → Act → World → Prop) (ops : List Oper) (cl ms : List Nat) (row : Option Nat) (n : Nat) (K : Act → World → Prop) (m : Nat) (L : List Nat) (σ : List Ent) (w : World) : Prop :=
 ∀ a, Kn n σ a → RT P Z ops.toArray (clOf cl) (wtOf ms) row K m L a w
section
variable {P : Program} {Z : List PanicEntry → Act → World → Prop} {ops : List Oper} {cl ms : List Nat} {row : Option Nat} {n : Nat} {K : Act → World → Prop} {m : Nat} {L L' : List Nat} {σ : List Ent} {w : World} {d : Nat} {op : Op} {ty : TypeId} {pos : String} {after : Array Edge} {v : Value}
theorem Uja (h : ∀ a, Kn n σ a → K a w) : ST P Z ops cl ms row n K 0 [] σ w := fun a ha => ⟨rfl, h a ha⟩
theorem Uka (τ : List Ent) (hs : Sub τ σ) (h : ST P Z ops cl ms row n K m L τ w) : ST P Z ops cl ms row n K m L σ w := fun a ha => h a (ha.sub hs)
theorem st_rd (r : Nat) (hr : ops.toArray[r]? = some ⟨some d, op, ty, pos, after, none⟩) (hb : (L.contains r && availB ms L r && Nat.beq (clOf cl r) 0 && Nat.blt d n) = true) (hL : L.erase r = L')
  (hv : ∀ w1, GX row w w1 → Rd P n σ True w1 op ty v) (h : ST P Z ops cl ms row n K m L' ((d, True, v) :: σ) w) : ST P Z ops cl ms row n K (m + 1) L σ w := fun a ha => by
 simp only [Bool.and_eq_true] at hb
 obtain ⟨⟨⟨h1, h2⟩, h3⟩, h4⟩ := hb
 refine .inl ⟨r, by simpa using h1, (Zbb ms L r).1 h2, .inl (Nat.eq_of_beq_eq_true h3), _, hr, v, fun _ w1 hg => ?_, (fun hn => by cases hn), hL ▸ h _ (ha.put h4 (fun _ => rfl) (fun hn => absurd trivial hn))⟩
 rcases hg with hg | hg
 ·rw [Nat.eq_of_beq_eq_true h3] at hg; cases hg
 ·exact hv w1 hg _ _ _ _ a ha trivial w1 (G.refl _)
theorem Zzb (r : Nat) (hr : ops.toArray[r]? = some ⟨some d, op, ty, pos, after, none⟩) (hb : (L.contains r && availB ms L r && Nat.beq (clOf cl r) 3 && Nat.blt d n) = true) (hL : L.erase r = L')
  (hv : ∀ wb, Rd P n σ True wb op ty v) (h : ST P Z ops cl ms row n K m L' ((d, True, v) :: σ) w) : ST P Z ops cl ms row n K (m + 1) L σ w := fun a ha => by
 simp only [Bool.and_eq_true] at hb
 obtain ⟨⟨⟨h1, h2⟩, h3⟩, h4⟩ := hb
 exact .inl ⟨r, by simpa using h1, (Zbb ms L r).1 h2, .inr (Nat.eq_of_beq_eq_true h3), _, hr, v, fun _ w1 hg => hv w1 _ _ _ _ a ha trivial w1 (G.refl _), (fun hn => by cases hn), hL ▸ h _ (ha.put h4 (fun _ => rfl) (fun hn => absurd trivial hn))⟩
open Classical in
open Classical in
def STE (P : Program) (Z : List PanicEntry → Act → World → Prop) (ops : List Oper) (cl ms : List Nat) (row : Option Nat) (n : Nat) (K : Act → World → Prop) (m : Nat) (L : List Nat) (σ : List Ent) (w : World) (j : Nat) : Prop :=
 ∀ a, Kn n σ a → ∃ o, ops.toArray[j]? = some o ∧ if Region.wanted o (yielded ops.toArray a.tmps) = true then EffQ P Z row (clOf cl j == 1) o a w (fun a' w' => RT P Z ops.toArray (clOf cl) (wtOf ms) row K m (L.erase j) a' w')
  else RT P Z ops.toArray (clOf cl) (wtOf ms) row K m (L.erase j) (a.put o.dst undef) w
theorem st_eff (cs : List Nat) (hb : L.all (fun r => !(availB ms L r && isRdB cl r)) = true) (hc : candB cl ms L = cs) (h : ∀ j ∈ cs, STE P Z ops cl ms row n K m L σ w j) : ST P Z ops cl ms row n K (m + 1) L σ w := fun a ha => by
 refine .inr ⟨fun r hr hav hrd => ?_, fun j hj hav => ?_⟩
 ·have := List.all_eq_true.1 hb r hr
  rw [(Zbb ms L r).2 hav, (isRdB_iff cl r).2 hrd] at this; cases this
 ·exact h j (by rw [← hc]; exact List.mem_filter.2 ⟨hj, (Zbb ms L j).2 hav⟩) a ha
theorem Va (j : Nat) (hb : L.all (fun r => !(availB ms L r && isRdB cl r)) = true) (hc : candB cl ms L = [j]) (h : STE P Z ops cl ms row n K m L σ w j) : ST P Z ops cl ms row n K (m + 1) L σ w :=
 st_eff [j] hb hc fun i hi => by rw [List.mem_singleton.1 hi]; exact h
theorem Zcb (j k : Nat) (hb : L.all (fun r => !(availB ms L r && isRdB cl r)) = true) (hc : candB cl ms L = [j, k]) (h : STE P Z ops cl ms row n K m L σ w j) (h' : STE P Z ops cl ms row n K m L σ w k) : ST P Z ops cl ms row n K (m + 1) L σ w :=
 st_eff [j, k] hb hc fun i hi => by
  rcases List.mem_cons.1 hi with rfl | hi
  ·exact h
  ·rw [List.mem_singleton.1 hi]; exact h'
theorem Xt {j : Nat} {o : Oper} (cl2 : List Nat) (ho : ops.toArray[j]? = some o) (hL : L.erase j = L') (hc : (Nat.beq (clOf cl2 j) 0 || Nat.beq (clOf cl2 j) 3) = false)
  (h : SR P Z ops cl2 [] w n (fun a' w' => GX row w w' ∧ RT P Z ops.toArray (clOf cl) (wtOf ms) row K m L' a' w') j [o] σ w) : STE P Z ops cl ms row n K m L σ w j := fun a ha => by
 subst hL
 have h1 := h (fun i o' h => by cases i with
  | zero => injection h with h; subst h; exact ho
  | succ i => cases h) a ha
 ·have hc' : ¬ (clOf cl2 j = 0 ∨ clOf cl2 j = 3) := by
   intro e; rw [Bool.or_eq_false_iff] at hc
   rcases e with e | e <;> rw [e] at hc <;> simp at hc
  obtain ⟨o', ho', h2⟩ := h1
  obtain rfl : o' = o := Option.some.inj (ho'.symm.trans ho)
  rw [if_neg hc'] at h2
  refine ⟨o', ho, ?_⟩
  by_cases hw : Region.wanted o' (yielded ops.toArray a.tmps) = true
  ·rw [if_pos hw] at h2 ⊢
   rcases h2 with ⟨v, w', hr, _, hn⟩ | ⟨w', hr, _, hn⟩ | ⟨f, args, hr, hcl⟩ | ⟨l, f, tmps, asg, body, hr, hcl⟩
   ·exact .inl ⟨v, w', hr, fun _ => hn.1, hn.2⟩
   ·exact .inr (.inl ⟨w', hr, fun _ => hn.1, hn.2⟩)
   ·refine .inr (.inr (.inl ⟨f, args, hr, Calls.mono hcl fun e w' h => ?_⟩))
    rcases h with ⟨v, he, _, hn⟩ | h
    ·exact .inl ⟨v, he, fun _ => hn.1, hn.2⟩
    ·exact .inr h
   ·exact .inr (.inr (.inr ⟨l, f, tmps, asg, body, hr, RoundIn.mono hcl fun e w' ⟨v, he, _, hn⟩ => ⟨v, he, fun _ => hn.1, hn.2⟩⟩))
  ·rw [if_neg hw] at h2 ⊢
   exact h2.2
theorem Zta {j : Nat} {o : Oper} (cl2 : List Nat) (ho : ops.toArray[j]? = some o) (hL : L.erase j = L') (hc : (Nat.beq (clOf cl2 j) 0 || Nat.beq (clOf cl2 j) 3) = false) (h1c : Nat.beq (clOf cl j) 1 = false)
  (h : SR P Z ops cl2 [] w n (fun a' w' => RT P Z ops.toArray (clOf cl) (wtOf ms) row K m L' a' w') j [o] σ w) : STE P Z ops cl ms row n K m L σ w j := fun a ha => by
 subst hL
 have h1 := h (fun i o' h => by cases i with
  | zero => injection h with h; subst h; exact ho
  | succ i => cases h) a ha
 have hc' : ¬ (clOf cl2 j = 0 ∨ clOf cl2 j = 3) := by
  intro e; rw [Bool.or_eq_false_iff] at hc
  rcases e with e | e <;> rw [e] at hc <;> simp at hc
 have h1c' : (clOf cl j == 1) = false := by
  cases h : (clOf cl j == 1) with
  | false => rfl
  | true => rw [eq_of_beq h] at h1c; cases h1c
 obtain ⟨o', ho', h2⟩ := h1
 obtain rfl : o' = o := Option.some.inj (ho'.symm.trans ho)
 rw [if_neg hc'] at h2
 refine ⟨o', ho, ?_⟩
 rw [h1c']
 by_cases hw : Region.wanted o' (yielded ops.toArray a.tmps) = true
 ·rw [if_pos hw] at h2 ⊢
  rcases h2 with ⟨v, w', hr, _, hn⟩ | ⟨w', hr, _, hn⟩ | ⟨f, args, hr, hcl⟩ | ⟨l, f, tmps, asg, body, hr, hcl⟩
  ·exact .inl ⟨v, w', hr, (fun h => by cases h), hn⟩
  ·exact .inr (.inl ⟨w', hr, (fun h => by cases h), hn⟩)
  ·refine .inr (.inr (.inl ⟨f, args, hr, Calls.mono hcl fun e w' h => ?_⟩))
   rcases h with ⟨v, he, _, hn⟩ | h
   ·exact .inl ⟨v, he, (fun h => by cases h), hn⟩
   ·exact .inr h
  ·exact .inr (.inr (.inr ⟨l, f, tmps, asg, body, hr, RoundIn.mono hcl fun e w' ⟨v, he, _, hn⟩ => ⟨v, he, (fun h => by cases h), hn⟩⟩))
 ·rw [if_neg hw] at h2 ⊢
  exact h2
theorem Vma {cl2 : List Nat} {W0 : World} {k : Nat} (h : ST P Z ops cl ms row n K m L σ w) : SR P Z ops cl2 [] W0 n (fun a' w' => RT P Z ops.toArray (clOf cl) (wtOf ms) row K m L a' w') k [] σ w := Zh h
theorem Wi {cl2 : List Nat} {W0 w0 : World} {k : Nat} (hg : GX row w0 w) (h : ST P Z ops cl ms row n K m L σ w) : SR P Z ops cl2 [] W0 n (fun a' w' => GX row w0 w' ∧ RT P Z ops.toArray (clOf cl) (wtOf ms) row K m L a' w') k [] σ w := Zh fun a ha => ⟨hg, h a ha⟩
end
section
variable {P : Program} {n : Nat} {N T : Act → World → Prop} {X : List (Nat × (Act → World → Prop))} {σ : List Ent} {w : World}
theorem Jub {id : Nat} {l : List Oper} (row : Option Nat) (cl : List Nat) (ms : List Nat) (hm : P.follows .mixedOrders = true) (hok : okT l cl ms = true) (L : List Nat) (hL : List.range l.length = L)
  (h : ST P NoP l cl ms row n N l.length L σ w.drew) : SC P n (.region id l.toArray true) N X T σ w := fun a ha => by
 have h1 := h a ha
 subst hL
 have h2 : RT P NoP l.toArray (clOf cl) (wtOf ms) row (fun a w => (Qof N X T) .normal a w) l.toArray.size (List.range l.toArray.size) a w.drew := by simpa [Qof] using h1
 exact wp_drawT (okayT_of hok) hm h2
end
end Go.Rk
namespace Go.Rk
open Go Go.RowKit
set_option linter.unusedVariables false
def nestFs (P : Program) : Nat → List Field → Option (List (Option TypeId × List Nat))
 | _, [] => some []
 | k, f :: fs => if Nat.beq f.offset k && f.name != "_" then match flatKind P f.type with
   | some a => (nestFs P (k + 1) fs).map fun r => (none, [a]) :: r
   | none => match tyFlat P f.type, tyAgg P f.type with
    | some ks, some z => if Nat.beq z ks.length then (nestFs P (k + ks.length) fs).map fun r => (some f.type, ks) :: r else none
    | _, _ => none
  else none
def tyNest (P : Program) (t : TypeId) : Option (List (Option TypeId × List Nat)) := match P.underlying t with
 | some (.struct fs) => if P.stoodInHeld t = false ∧ P.eqGuardType P.depth t = false then nestFs P 0 fs.toList else none
 | _ => none
def eqN : List (Option TypeId × List Nat) → List Value → List Value → Option Bool
 | [], [], [] => some true
 | [], _, _ => none
 | (_, ks) :: r, l, l' => match eqL ks (l.take ks.length) (l'.take ks.length) with
  | some b => match eqN r (l.drop ks.length) (l'.drop ks.length) with
   | some c => some (b && c)
   | none => none
  | none => none
section
variable {P : Program} {n : Nat} {σ : List Ent} {c : Prop} {wb : World} {ty : TypeId} {v : Value}
end
end Go.Rk
namespace Go.Rk
open Go
@[reducible] noncomputable def PP : Program := Go.Proofs.Tryz.prog
theorem mix : PP.follows .mixedOrders = true := by kernel_rfl
@[reducible] def fn_l07_FoldFile : Nat := 3
@[reducible] def fn_l07_FoldChecked : Nat := 4
@[reducible] def fn_l03_SyntaxPrint : Nat := 5
@[reducible] def Xhb : Nat := 6
theorem Znb : PP.funcs[6]? = some Go.Proofs.Tryz.f6 := Go.Proofs.Tryz.func6
@[reducible] def fn_l07_awake : Nat := 7
@[reducible] def fn_r03_Count : Nat := 8
theorem Ula : goFn PP 8 = true := by kernel_rfl
theorem Jvb : PP.funcs[8]? = some Go.Proofs.Tryz.f8 := Go.Proofs.Tryz.func8
@[reducible] def fn_r03_Copy : Nat := 9
@[reducible] def fn_r03_Same : Nat := 10
@[reducible] def fn_fold_File : Nat := 11
@[reducible] def fn_r07_File : Nat := 12
@[reducible] def fn_r06_Check : Nat := 13
@[reducible] def fn_l03_awake : Nat := 14
theorem go_l03_awake : goFn PP 14 = true := by kernel_rfl
theorem Jwb : PP.funcs[14]? = some Go.Proofs.Tryz.f14 := Go.Proofs.Tryz.func14
@[reducible] def fn_l03_great : Nat := 15
@[reducible] def Urb : Nat := 16
theorem Yra : goFn PP 16 = true := by kernel_rfl
theorem Xib : PP.funcs[16]? = some Go.Proofs.Tryz.f16 := Go.Proofs.Tryz.func16
@[reducible] def fn_r03_Print : Nat := 17
@[reducible] def fn_r03_Valid : Nat := 18
theorem Xjb : goFn PP 18 = true := by kernel_rfl
theorem Jxb : PP.funcs[18]? = some Go.Proofs.Tryz.f18 := Go.Proofs.Tryz.func18
@[reducible] def fn_r02_Scan : Nat := 19
theorem go_r02_Scan : goFn PP 19 = true := by kernel_rfl
theorem func_r02_Scan : PP.funcs[19]? = some Go.Proofs.Tryz.f19 := Go.Proofs.Tryz.func19
@[reducible] def Usb : Nat := 20
theorem Ysa : goFn PP 20 = true := by kernel_rfl
theorem Xkb : PP.funcs[20]? = some Go.Proofs.Tryz.f20 := Go.Proofs.Tryz.func20
@[reducible] def fn_fold_Value : Nat := 21
@[reducible] def fn_l07_binary : Nat := 22
@[reducible] def fn_l07_number : Nat := 23
@[reducible] def fn_r03_Equal : Nat := 24
@[reducible] def fn_l07_printed : Nat := 25
@[reducible] def fn_l07_printing : Nat := 26
@[reducible] def Utb : Nat := 27
theorem Uza : goFn PP 27 = true := by kernel_rfl
theorem Xlb : PP.funcs[27]? = some Go.Proofs.Tryz.f27 := Go.Proofs.Tryz.func27
@[reducible] def fn_fold_fold : Nat := 28
@[reducible] def fn_r07_folded : Nat := 29
@[reducible] def fn_r07_plain : Nat := 30
@[reducible] def fn_r06_checker_fail : Nat := 31
@[reducible] def fn_r06_clean : Nat := 32
@[reducible] def fn_r06_bare : Nat := 33
@[reducible] def fn_r06_checker_structure : Nat := 34
@[reducible] def fn_r06_checker_pointer : Nat := 35
@[reducible] def fn_r06_checker_function : Nat := 36
@[reducible] def fn_r06_find : Nat := 37
@[reducible] def fn_l03_sample : Nat := 38
theorem go_l03_sample : goFn PP 38 = true := by kernel_rfl
theorem Uub : PP.funcs[38]? = some Go.Proofs.Tryz.f38 := Go.Proofs.Tryz.func38
@[reducible] def Jyb : Nat := 39
theorem Jzb : goFn PP 39 = true := by kernel_rfl
theorem Wtb : PP.funcs[39]? = some Go.Proofs.Tryz.f39 := Go.Proofs.Tryz.func39
@[reducible] def Uvb : Nat := 40
theorem Yta : goFn PP 40 = true := by kernel_rfl
theorem Xmb : PP.funcs[40]? = some Go.Proofs.Tryz.f40 := Go.Proofs.Tryz.func40
@[reducible] def Uwb : Nat := 41
theorem Yua : goFn PP 41 = true := by kernel_rfl
theorem Xnb : PP.funcs[41]? = some Go.Proofs.Tryz.f41 := Go.Proofs.Tryz.func41
@[reducible] def Xp : Nat := 42
theorem Wp : goFn PP 42 = true := by kernel_rfl
theorem Wya : PP.funcs[42]? = some Go.Proofs.Tryz.f42 := Go.Proofs.Tryz.func42
@[reducible] def Uy : Nat := 43
theorem Zw : goFn PP 43 = true := by kernel_rfl
theorem Wca : PP.funcs[43]? = some Go.Proofs.Tryz.f43 := Go.Proofs.Tryz.func43
@[reducible] def Wda : Nat := 44
theorem Wea : goFn PP 44 = true := by kernel_rfl
@[reducible] def fn_r03_declText : Nat := 45
@[reducible] def fn_r03_Depth : Nat := 46
theorem Xob : goFn PP 46 = true := by kernel_rfl
theorem Zac : PP.funcs[46]? = some Go.Proofs.Tryz.f46 := Go.Proofs.Tryz.func46
@[reducible] def fn_r03_isDecl : Nat := 47
theorem go_r03_isDecl : goFn PP 47 = true := by kernel_rfl
theorem Uxb : PP.funcs[47]? = some Go.Proofs.Tryz.f47 := Go.Proofs.Tryz.func47
@[reducible] def fn_r02_All : Nat := 48
theorem go_r02_All : goFn PP 48 = true := by kernel_rfl
theorem func_r02_All : PP.funcs[48]? = some Go.Proofs.Tryz.f48 := Go.Proofs.Tryz.func48
@[reducible] def fn_fold_value : Nat := 49
@[reducible] def fn_r03_counts : Nat := 50
@[reducible] def Zob : Nat := 51
theorem Xca : goFn PP 51 = true := by kernel_rfl
theorem Qda : PP.funcs[51]? = some Go.Proofs.Tryz.f51 := Go.Proofs.Tryz.func51
@[reducible] def fn_fold_replace : Nat := 52
@[reducible] def fn_fold_each_api_Node : Nat := 53
@[reducible] def Yab : Nat := 54
theorem Vk : goFn PP 54 = true := by kernel_rfl
theorem Uyb : PP.funcs[54]? = some Go.Proofs.Tryz.f54 := Go.Proofs.Tryz.func54
@[reducible] def fn_r07_constant : Nat := 55
@[reducible] def fn_r07_replaced : Nat := 56
@[reducible] def fn_r03_Strip : Nat := 57
@[reducible] def fn_r05_Of : Nat := 58
@[reducible] def fn_r06_checker_declare : Nat := 59
@[reducible] def fn_r06_checker_local : Nat := 60
@[reducible] def fn_r06_checker_stmts : Nat := 61
@[reducible] def fn_r06_ends : Nat := 62
@[reducible] def fn_l03_name : Nat := 63
theorem Qua : goFn PP 63 = true := by kernel_rfl
theorem func_l03_name : PP.funcs[63]? = some Go.Proofs.Tryz.f63 := Go.Proofs.Tryz.func63
@[reducible] def fn_l03_typed : Nat := 64
theorem Xda : goFn PP 64 = true := by kernel_rfl
theorem Zbc : PP.funcs[64]? = some Go.Proofs.Tryz.f64 := Go.Proofs.Tryz.func64
@[reducible] def Zua : Nat := 65
theorem Wub : goFn PP 65 = true := by kernel_rfl
theorem Ylb : PP.funcs[65]? = some Go.Proofs.Tryz.f65 := Go.Proofs.Tryz.func65
@[reducible] def Jp : Nat := 66
theorem Xpa : goFn PP 66 = true := by kernel_rfl
theorem Qva : PP.funcs[66]? = some Go.Proofs.Tryz.f66 := Go.Proofs.Tryz.func66
@[reducible] def Yia : Nat := 67
theorem Yja : goFn PP 67 = true := by kernel_rfl
theorem Zoa : PP.funcs[67]? = some Go.Proofs.Tryz.f67 := Go.Proofs.Tryz.func67
@[reducible] def Xqa : Nat := 68
theorem Xra : goFn PP 68 = true := by kernel_rfl
theorem Yva : PP.funcs[68]? = some Go.Proofs.Tryz.f68 := Go.Proofs.Tryz.func68
@[reducible] def Wza : Nat := 69
theorem Vaa : goFn PP 69 = true := by kernel_rfl
theorem Xsa : PP.funcs[69]? = some Go.Proofs.Tryz.f69 := Go.Proofs.Tryz.func69
@[reducible] def Uz : Nat := 70
theorem Zva : goFn PP 70 = true := by kernel_rfl
theorem Zda : PP.funcs[70]? = some Go.Proofs.Tryz.f70 := Go.Proofs.Tryz.func70
@[reducible] def fn_r03_varText : Nat := 71
@[reducible] def fn_r03_TypeText : Nat := 72
@[reducible] def Uma : Nat := 73
theorem Zcc : PP.funcs[73]? = some Go.Proofs.Tryz.f73 := Go.Proofs.Tryz.func73
@[reducible] def fn_r02_Name : Nat := 74
theorem Qj : goFn PP 74 = true := by kernel_rfl
theorem func_r02_Name : PP.funcs[74]? = some Go.Proofs.Tryz.f74 := Go.Proofs.Tryz.func74
@[reducible] def fn_r03_fields : Nat := 75
theorem Ybb : goFn PP 75 = true := by kernel_rfl
theorem Uzb : PP.funcs[75]? = some Go.Proofs.Tryz.f75 := Go.Proofs.Tryz.func75
@[reducible] def fn_r03_isVar : Nat := 76
theorem Xpb : goFn PP 76 = true := by kernel_rfl
theorem Zdc : PP.funcs[76]? = some Go.Proofs.Tryz.f76 := Go.Proofs.Tryz.func76
@[reducible] def fn_r03_isNone : Nat := 77
theorem Qz : goFn PP 77 = true := by kernel_rfl
theorem Qab : PP.funcs[77]? = some Go.Proofs.Tryz.f77 := Go.Proofs.Tryz.func77
@[reducible] def fn_r03_IsType : Nat := 78
theorem Vba : goFn PP 78 = true := by kernel_rfl
theorem Qbb : PP.funcs[78]? = some Go.Proofs.Tryz.f78 := Go.Proofs.Tryz.func78
@[reducible] def Qwa : Nat := 79
theorem Un : goFn PP 79 = true := by kernel_rfl
theorem Wvb : PP.funcs[79]? = some Go.Proofs.Tryz.f79 := Go.Proofs.Tryz.func79
@[reducible] def fn_r02_ends : Nat := 80
theorem go_r02_ends : goFn PP 80 = true := by kernel_rfl
theorem func_r02_ends : PP.funcs[80]? = some Go.Proofs.Tryz.f80 := Go.Proofs.Tryz.func80
@[reducible] def fn_r02_next : Nat := 81
theorem go_r02_next : goFn PP 81 = true := by kernel_rfl
theorem func_r02_next : PP.funcs[81]? = some Go.Proofs.Tryz.f81 := Go.Proofs.Tryz.func81
@[reducible] def fn_fold_binary : Nat := 82
@[reducible] def Zec : Nat := 83
theorem Zfc : goFn PP 83 = true := by kernel_rfl
theorem Wwb : PP.funcs[83]? = some Go.Proofs.Tryz.f83 := Go.Proofs.Tryz.func83
@[reducible] def Zgc : Nat := 84
theorem Zhc : goFn PP 84 = true := by kernel_rfl
theorem Wxb : PP.funcs[84]? = some Go.Proofs.Tryz.f84 := Go.Proofs.Tryz.func84
@[reducible] def Ymb : Nat := 85
theorem Uo : goFn PP 85 = true := by kernel_rfl
theorem Qxa : PP.funcs[85]? = some Go.Proofs.Tryz.f85 := Go.Proofs.Tryz.func85
@[reducible] def Qcb : Nat := 86
theorem Qdb : goFn PP 86 = true := by kernel_rfl
theorem Xqb : PP.funcs[86]? = some Go.Proofs.Tryz.f86 := Go.Proofs.Tryz.func86
@[reducible] def fn_r07_logic : Nat := 87
@[reducible] def fn_r07_arithmetic : Nat := 88
@[reducible] def fn_r05_Value : Nat := 89
@[reducible] def fn_r06_checker_stmt : Nat := 90
@[reducible] def Vna : Nat := 91
theorem Ua : goFn PP 91 = true := by kernel_rfl
theorem Wfa : PP.funcs[91]? = some Go.Proofs.Tryz.f91 := Go.Proofs.Tryz.func91
@[reducible] def Una : Nat := 92
theorem Vn : goFn PP 92 = true := by kernel_rfl
theorem Vca : PP.funcs[92]? = some Go.Proofs.Tryz.f92 := Go.Proofs.Tryz.func92
@[reducible] def Qea : Nat := 93
theorem Ja : goFn PP 93 = true := by kernel_rfl
theorem Voa : PP.funcs[93]? = some Go.Proofs.Tryz.f93 := Go.Proofs.Tryz.func93
@[reducible] def Qa : Nat := 94
theorem Wk : goFn PP 94 = true := by kernel_rfl
theorem Wga : PP.funcs[94]? = some Go.Proofs.Tryz.f94 := Go.Proofs.Tryz.func94
@[reducible] def Xv : Nat := 95
theorem Xh : goFn PP 95 = true := by kernel_rfl
theorem Vda : PP.funcs[95]? = some Go.Proofs.Tryz.f95 := Go.Proofs.Tryz.func95
@[reducible] def Uoa : Nat := 96
theorem Zea : goFn PP 96 = true := by kernel_rfl
theorem Vea : PP.funcs[96]? = some Go.Proofs.Tryz.f96 := Go.Proofs.Tryz.func96
@[reducible] def Zfa : Nat := 97
theorem Wq : goFn PP 97 = true := by kernel_rfl
theorem Vfa : PP.funcs[97]? = some Go.Proofs.Tryz.f97 := Go.Proofs.Tryz.func97
@[reducible] def Ywa : Nat := 98
theorem Qr : goFn PP 98 = true := by kernel_rfl
theorem Zwa : PP.funcs[98]? = some Go.Proofs.Tryz.f98 := Go.Proofs.Tryz.func98
@[reducible] def Qya : Nat := 99
@[reducible] def fn_r03_lines : Nat := 100
theorem go_r03_lines : goFn PP 100 = true := by kernel_rfl
theorem Zic : PP.funcs[100]? = some Go.Proofs.Tryz.f100 := Go.Proofs.Tryz.func100
@[reducible] def fn_r03_tabs : Nat := 101
theorem Ucb : goFn PP 101 = true := by kernel_rfl
theorem func_r03_tabs : PP.funcs[101]? = some Go.Proofs.Tryz.f101 := Go.Proofs.Tryz.func101
@[reducible] def Ycb : Nat := 102
theorem Jj : goFn PP 102 = true := by kernel_rfl
theorem Qaa : PP.funcs[102]? = some Go.Proofs.Tryz.f102 := Go.Proofs.Tryz.func102
@[reducible] def Zjc : Nat := 103
theorem Qza : goFn PP 103 = true := by kernel_rfl
theorem Wyb : PP.funcs[103]? = some Go.Proofs.Tryz.f103 := Go.Proofs.Tryz.func103
@[reducible] def Xrb : Nat := 104
theorem Zga : goFn PP 104 = true := by kernel_rfl
theorem Jaa : PP.funcs[104]? = some Go.Proofs.Tryz.f104 := Go.Proofs.Tryz.func104
@[reducible] def Qeb : Nat := 105
theorem Qfb : goFn PP 105 = true := by kernel_rfl
theorem Xsb : PP.funcs[105]? = some Go.Proofs.Tryz.f105 := Go.Proofs.Tryz.func105
@[reducible] def Ydb : Nat := 106
theorem Jk : goFn PP 106 = true := by kernel_rfl
theorem Qgb : PP.funcs[106]? = some Go.Proofs.Tryz.f106 := Go.Proofs.Tryz.func106
@[reducible] def Zkc : Nat := 107
theorem Zlc : goFn PP 107 = true := by kernel_rfl
theorem Wzb : PP.funcs[107]? = some Go.Proofs.Tryz.f107 := Go.Proofs.Tryz.func107
@[reducible] def Qhb : Nat := 108
theorem Qib : goFn PP 108 = true := by kernel_rfl
theorem Xtb : PP.funcs[108]? = some Go.Proofs.Tryz.f108 := Go.Proofs.Tryz.func108
@[reducible] def fn_fold_truth : Nat := 109
@[reducible] def Zmc : Nat := 110
theorem Znc : goFn PP 110 = true := by kernel_rfl
theorem Vab : PP.funcs[110]? = some Go.Proofs.Tryz.f110 := Go.Proofs.Tryz.func110
@[reducible] def Qjb : Nat := 111
theorem Wj : goFn PP 111 = true := by kernel_rfl
theorem Xub : PP.funcs[111]? = some Go.Proofs.Tryz.f111 := Go.Proofs.Tryz.func111
@[reducible] def Qkb : Nat := 112
theorem Qs : goFn PP 112 = true := by kernel_rfl
theorem Xvb : PP.funcs[112]? = some Go.Proofs.Tryz.f112 := Go.Proofs.Tryz.func112
@[reducible] def Zoc : Nat := 113
theorem Wl : goFn PP 113 = true := by kernel_rfl
theorem Vbb : PP.funcs[113]? = some Go.Proofs.Tryz.f113 := Go.Proofs.Tryz.func113
@[reducible] def Qlb : Nat := 114
theorem Qt : goFn PP 114 = true := by kernel_rfl
theorem Xwb : PP.funcs[114]? = some Go.Proofs.Tryz.f114 := Go.Proofs.Tryz.func114
@[reducible] def Vcb : Nat := 115
theorem Qb : goFn PP 115 = true := by kernel_rfl
theorem Ynb : PP.funcs[115]? = some Go.Proofs.Tryz.f115 := Go.Proofs.Tryz.func115
@[reducible] def Jba : Nat := 116
theorem Wn : goFn PP 116 = true := by kernel_rfl
theorem Upa : PP.funcs[116]? = some Go.Proofs.Tryz.f116 := Go.Proofs.Tryz.func116
@[reducible] def Zpb : Nat := 117
theorem Zqb : goFn PP 117 = true := by kernel_rfl
theorem Qfa : PP.funcs[117]? = some Go.Proofs.Tryz.f117 := Go.Proofs.Tryz.func117
@[reducible] def Vpa : Nat := 118
theorem Vqa : goFn PP 118 = true := by kernel_rfl
theorem Wha : PP.funcs[118]? = some Go.Proofs.Tryz.f118 := Go.Proofs.Tryz.func118
@[reducible] def fn_r07_boolean : Nat := 119
@[reducible] def fn_r05_Reference : Nat := 120
@[reducible] def fn_r06_checker_block : Nat := 121
@[reducible] def fn_r06_checker_ifStmt : Nat := 122
@[reducible] def fn_r06_checker_assign : Nat := 123
@[reducible] def fn_r06_checker_selectStmt : Nat := 124
@[reducible] def fn_r06_checker_expr : Nat := 125
@[reducible] def fn_r05_Assignable : Nat := 126
@[reducible] def fn_r06_checker_condition : Nat := 127
@[reducible] def fn_r06_checker_want : Nat := 128
@[reducible] def Qu : Nat := 129
theorem Qv : goFn PP 129 = true := by kernel_rfl
theorem Zxa : PP.funcs[129]? = some Go.Proofs.Tryz.f129 := Go.Proofs.Tryz.func129
@[reducible] def Wia : Nat := 130
theorem Uq : goFn PP 130 = true := by kernel_rfl
theorem Xea : PP.funcs[130]? = some Go.Proofs.Tryz.f130 := Go.Proofs.Tryz.func130
@[reducible] def Vra : Nat := 131
theorem Vi : goFn PP 131 = true := by kernel_rfl
theorem Wja : PP.funcs[131]? = some Go.Proofs.Tryz.f131 := Go.Proofs.Tryz.func131
@[reducible] def Qmb : Nat := 132
theorem Qnb : goFn PP 132 = true := by kernel_rfl
@[reducible] def Qga : Nat := 133
theorem Qha : goFn PP 133 = true := by kernel_rfl
theorem Vsa : PP.funcs[133]? = some Go.Proofs.Tryz.f133 := Go.Proofs.Tryz.func133
@[reducible] def fn_r03_Digits : Nat := 135
@[reducible] def fn_r03_base : Nat := 136
@[reducible] def fn_r03_operand : Nat := 137
@[reducible] def Wna : Nat := 138
theorem go_r03_stmt : goFn PP 138 = true := by kernel_rfl
@[reducible] def Udb : Nat := 139
theorem Ueb : goFn PP 139 = true := by kernel_rfl
theorem func_r03_isIf : PP.funcs[139]? = some Go.Proofs.Tryz.f139 := Go.Proofs.Tryz.func139
@[reducible] def Qob : Nat := 140
theorem Qpb : goFn PP 140 = true := by kernel_rfl
theorem Xxb : PP.funcs[140]? = some Go.Proofs.Tryz.f140 := Go.Proofs.Tryz.func140
@[reducible] def fn_r03_kind : Nat := 141
theorem Jca : goFn PP 141 = true := by kernel_rfl
theorem func_r03_kind : PP.funcs[141]? = some Go.Proofs.Tryz.f141 := Go.Proofs.Tryz.func141
@[reducible] def fn_scan_Scan : Nat := 142
theorem go_scan_Scan : goFn PP 142 = true := by kernel_rfl
theorem Zpc : PP.funcs[142]? = some Go.Proofs.Tryz.f142 := Go.Proofs.Tryz.func142
@[reducible] def Xyb : Nat := 143
theorem Xzb : goFn PP 143 = true := by kernel_rfl
theorem Zrb : PP.funcs[143]? = some Go.Proofs.Tryz.f143 := Go.Proofs.Tryz.func143
@[reducible] def Yob : Nat := 144
theorem Ypb : goFn PP 144 = true := by kernel_rfl
theorem Jda : PP.funcs[144]? = some Go.Proofs.Tryz.f144 := Go.Proofs.Tryz.func144
@[reducible] def fn_r05_Valid : Nat := 145
@[reducible] def fn_r06_checker_open : Nat := 146
@[reducible] def fn_r06_checker_shut : Nat := 147
@[reducible] def fn_r06_checker_literal : Nat := 148
@[reducible] def fn_r06_checker_call : Nat := 149
@[reducible] def fn_r06_checker_lookup : Nat := 150
@[reducible] def fn_r06_checker_member : Nat := 151
@[reducible] def fn_r06_checker_operation : Nat := 152
@[reducible] def fn_r03_ifText : Nat := 155
@[reducible] def fn_r03_selectText : Nat := 156
@[reducible] def Yeb : Nat := 157
theorem go_r03_isComm : goFn PP 157 = true := by kernel_rfl
theorem Qqb : PP.funcs[157]? = some Go.Proofs.Tryz.f157 := Go.Proofs.Tryz.func157
@[reducible] def fn_scan_all : Nat := 158
theorem go_scan_all : goFn PP 158 = true := by kernel_rfl
theorem func_scan_all : PP.funcs[158]? = some Go.Proofs.Tryz.f158 := Go.Proofs.Tryz.func158
@[reducible] def fn_r06_checker_callee : Nat := 159
@[reducible] def fn_r05_Fields : Nat := 160
@[reducible] def fn_r05_Binary : Nat := 161
@[reducible] def Jea : Nat := 163
theorem Jfa : goFn PP 163 = true := by kernel_rfl
theorem Uqa : PP.funcs[163]? = some Go.Proofs.Tryz.f163 := Go.Proofs.Tryz.func163
@[reducible] def fn_r06_checker_receiver : Nat := 164
@[reducible] def fn_r05_Method : Nat := 165
@[reducible] def fn_r05_Comparable : Nat := 166
@[reducible] def Vta : Nat := 171
theorem Vua : goFn PP 171 = true := by kernel_rfl
theorem Wka : PP.funcs[171]? = some Go.Proofs.Tryz.f171 := Go.Proofs.Tryz.func171
@[reducible] def Jga : Nat := 172
theorem Yka : goFn PP 172 = true := by kernel_rfl
theorem Ura : PP.funcs[172]? = some Go.Proofs.Tryz.f172 := Go.Proofs.Tryz.func172
@[reducible] def Zsb : Nat := 173
theorem Ji : goFn PP 173 = true := by kernel_rfl
theorem Qia : PP.funcs[173]? = some Go.Proofs.Tryz.f173 := Go.Proofs.Tryz.func173
@[reducible] def Usa : Nat := 174
theorem Uta : goFn PP 174 = true := by kernel_rfl
theorem Vga : PP.funcs[174]? = some Go.Proofs.Tryz.f174 := Go.Proofs.Tryz.func174
@[reducible] def Zqc : Nat := 175
theorem Xta : goFn PP 175 = true := by kernel_rfl
theorem Vdb : PP.funcs[175]? = some Go.Proofs.Tryz.f175 := Go.Proofs.Tryz.func175
@[reducible] def Uua : Nat := 176
theorem Uva : goFn PP 176 = true := by kernel_rfl
theorem Vha : PP.funcs[176]? = some Go.Proofs.Tryz.f176 := Go.Proofs.Tryz.func176
@[reducible] def fn_scan_digit : Nat := 177
theorem Via : goFn PP 177 = true := by kernel_rfl
theorem Qrb : PP.funcs[177]? = some Go.Proofs.Tryz.f177 := Go.Proofs.Tryz.func177
@[reducible] def Qsb : Nat := 178
theorem Qtb : goFn PP 178 = true := by kernel_rfl
theorem Wab : PP.funcs[178]? = some Go.Proofs.Tryz.f178 := Go.Proofs.Tryz.func178
@[reducible] def Ztb : Nat := 179
theorem Uw : goFn PP 179 = true := by kernel_rfl
theorem Qja : PP.funcs[179]? = some Go.Proofs.Tryz.f179 := Go.Proofs.Tryz.func179
@[reducible] def Zub : Nat := 180
theorem Zvb : goFn PP 180 = true := by kernel_rfl
@[reducible] def Zrc : Nat := 186
theorem Zsc : goFn PP 186 = true := by kernel_rfl
theorem Veb : PP.funcs[186]? = some Go.Proofs.Tryz.f186 := Go.Proofs.Tryz.func186
@[reducible] def Jw : Nat := 187
theorem Jy : goFn PP 187 = true := by kernel_rfl
theorem Jl : PP.funcs[187]? = some Go.Proofs.Tryz.f187 := Go.Proofs.Tryz.func187
@[reducible] def fn_strconv_toError : Nat := 189
@[reducible] def fn_strconv_syntaxError : Nat := 193
@[reducible] def fn_strconv_rangeError : Nat := 194
@[reducible] def fn_strconv_baseError : Nat := 195
@[reducible] def fn_strconv_bitSizeError : Nat := 196
@[reducible] def Ufb : Nat := 199
@[reducible] def ty_int64 : Nat := 2
@[reducible] def ty_int : Nat := 3
theorem Yxa : tySize PP 3 = some 1 := by kernel_rfl
theorem Qc : zeroOf PP 3 = some (.int .i64 0) := by kernel_rfl
theorem Yy : tyOne PP 3 = true := by kernel_rfl
theorem ik_int : Xfb PP 3 = some .i64 := by kernel_rfl
@[reducible] def ty_bool : Nat := 4
theorem sz_bool : tySize PP 4 = some 1 := by kernel_rfl
theorem ze_bool : zeroOf PP 4 = some (.bool false) := by kernel_rfl
theorem one_bool : tyOne PP 4 = true := by kernel_rfl
theorem und_bool : PP.underlying 4 = some .bool := by kernel_rfl
@[reducible] def Yla : Nat := 5
theorem Ztc : zeroOf PP 5 = some (.int .u8 0) := by kernel_rfl
theorem ik_uint8 : Xfb PP 5 = some .u8 := by kernel_rfl
@[reducible] def ty_string : Nat := 9
theorem Xa : zeroOf PP 9 = some (.string ⟨#[]⟩) := by kernel_rfl
theorem Yt : tyOne PP 9 = true := by kernel_rfl
theorem Yv : Xcb PP 9 = true := by kernel_rfl
@[reducible] def ty_sl_api_Node : Nat := 22
theorem Jha : tySize PP 22 = some 1 := by kernel_rfl
theorem Zq : tyOne PP 22 = true := by kernel_rfl
theorem Zo : tyElem PP 22 = some (26, 9, 104) := by kernel_rfl
@[reducible] def ty_api_Type : Nat := 24
@[reducible] def Vy : Nat := 26
theorem Xi : tySize PP 26 = some 9 := by kernel_rfl
theorem Yo : zeroOf PP 26 = some (.agg #[.int .i64 0, .string ⟨#[]⟩, .int .i64 0, .int .i64 0, .slice none 0 0, .int .i64 0, .string ⟨#[]⟩, .int .i64 0, .int .i64 0]) := by kernel_rfl
theorem Zr : tyAgg PP 26 = some 9 := by kernel_rfl
theorem Ys : Ud PP 26 0 = some 0 := by kernel_rfl
theorem Yw : Ud PP 26 1 = some 1 := by kernel_rfl
theorem Wy : Ud PP 26 2 = some 2 := by kernel_rfl
theorem Zv : Ud PP 26 4 = some 4 := by kernel_rfl
theorem Wh : Zaa PP 26 = some [(0, 1), (1, 1), (2, 1), (3, 1), (4, 1), (5, 2), (7, 1), (8, 1)] := by kernel_rfl
@[reducible] def ty_func_api_Node_api_Node : Nat := 29
@[reducible] def Up : Nat := 31
theorem Qka : tySize PP 31 = some 1 := by kernel_rfl
theorem Qla : zeroOf PP 31 = some (.nilFunc) := by kernel_rfl
theorem Ql : tyOne PP 31 = true := by kernel_rfl
@[reducible] def ty_api_Errno : Nat := 32
@[reducible] def ty_sl_api_Token : Nat := 36
theorem Yya : tySize PP 36 = some 1 := by kernel_rfl
theorem Uk : tyOne PP 36 = true := by kernel_rfl
theorem Xk : tyElem PP 36 = some (94, 3, 32) := by kernel_rfl
@[reducible] def Qub : Nat := 43
@[reducible] def Vfb : Nat := 44
@[reducible] def ty_sl_int : Nat := 45
theorem one_sl_int : tyOne PP 45 = true := by kernel_rfl
theorem Wt : tyElem PP 45 = some (3, 1, 8) := by kernel_rfl
@[reducible] def Zuc : Nat := 47
@[reducible] def Zvc : Nat := 53
@[reducible] def Wrb : Nat := 54
@[reducible] def Ut : Nat := 56
theorem Jia : tySize PP 56 = some 1 := by kernel_rfl
theorem Zpa : tyOne PP 56 = true := by kernel_rfl
theorem Yma : tyPtr PP 56 = true := by kernel_rfl
@[reducible] def ty_sl_uint8 : Nat := 57
theorem Ugb : tySize PP 57 = some 1 := by kernel_rfl
theorem Wbb : tyOne PP 57 = true := by kernel_rfl
theorem Jja : tyElem PP 57 = some (5, 1, 1) := by kernel_rfl
@[reducible] def ty_strings_Builder : Nat := 59
theorem Jd : Ud PP 59 0 = some 0 := by kernel_rfl
theorem Uu : Ud PP 59 1 = some 1 := by kernel_rfl
@[reducible] def Vo : Nat := 61
theorem Wcb : zeroOf PP 61 = some (.agg #[.pointer none, .slice none 0 0, .int .i64 0]) := by kernel_rfl
theorem Ux : Ud PP 61 0 = some 0 := by kernel_rfl
theorem Ue : Ud PP 61 1 = some 2 := by kernel_rfl
@[reducible] def ty_fold_constant : Nat := 67
@[reducible] def ty_p_syntax_printer : Nat := 83
@[reducible] def ty_sl_string : Nat := 84
theorem Yn : tyElem PP 84 = some (9, 1, 16) := by kernel_rfl
@[reducible] def ty_error : Nat := 86
theorem if_error : PP.isIface 86 = true := by kernel_rfl
@[reducible] def ty_p_uint8 : Nat := 89
@[reducible] def Vf : Nat := 94
theorem Vg : tySize PP 94 = some 3 := by kernel_rfl
theorem Xn : zeroOf PP 94 = some (.agg #[.int .i64 0, .string ⟨#[]⟩, .int .i64 0]) := by kernel_rfl
theorem Wc : tyAgg PP 94 = some 3 := by kernel_rfl
theorem Qd : Ud PP 94 0 = some 0 := by kernel_rfl
theorem Vz : Ud PP 94 1 = some 1 := by kernel_rfl
theorem Vw : Zaa PP 94 = some [(0, 1), (1, 1), (2, 1)] := by kernel_rfl
@[reducible] def Jbb : Nat := 101
@[reducible] def ty_func_uint8_bool : Nat := 107
@[reducible] def Vva : Nat := 111
theorem Vgb : tySize PP 111 = some 1 := by kernel_rfl
theorem Xy : zeroOf PP 111 = some (.nilFunc) := by kernel_rfl
theorem Zha : tyOne PP 111 = true := by kernel_rfl
@[reducible] def Woa : Nat := 122
@[reducible] def ty_uint64 : Nat := 124
theorem ik_uint64 : Xfb PP 124 = some .u64 := by kernel_rfl
@[reducible] def ty_sl_func_int_bool : Nat := 125
theorem Xj : tyElem PP 125 = some (111, 1, 8) := by kernel_rfl
@[reducible] def ty_p_scan_scanner : Nat := 127
@[reducible] def Qw : Nat := 131
theorem Qvb : zeroOf PP 131 = some (.agg #[.string ⟨#[]⟩, .int .i64 0, .slice none 0 0, .slice none 0 0]) := by kernel_rfl
theorem Wf : Ud PP 131 0 = some 0 := by kernel_rfl
theorem Yx : Ud PP 131 1 = some 1 := by kernel_rfl
theorem Vp : Ud PP 131 2 = some 2 := by kernel_rfl
theorem Wpa : Ud PP 131 3 = some 3 := by kernel_rfl
theorem Qwb : Zaa PP 131 = some [(0, 1), (1, 1), (2, 1), (3, 1)] := by kernel_rfl
@[reducible] def ty_sl_api_Type : Nat := 132
@[reducible] def ty_sl_api_Field : Nat := 135
@[reducible] def ty_api_Field : Nat := 139
@[reducible] def ty_27_string : Nat := 155
theorem agg_27_string : tyAgg PP 155 = some 27 := by kernel_rfl
theorem ar_27_string : tyArr1 PP 155 = some 27 := by kernel_rfl
@[reducible] def ty_strconv_Error : Nat := 164
@[reducible] def ty_p_strconv_NumError : Nat := 167
@[reducible] def ty_strconv_NumError : Nat := 174
end Go.Rk
namespace Go.Rk
open Go
theorem bsimp : True := trivial
def letterB (c : Int) : Bool := (decide (97 ≤ c) && decide (c ≤ 122) || decide (65 ≤ c) && decide (c ≤ 90)) || decide (c = 95)
def digitB (c : Int) : Bool := decide (48 ≤ c) && decide (c ≤ 57)
theorem Vhb (c : Int) (w : World) : Ret PP Zqc #[.int .u8 c] w fun v w' => v = .bool (letterB c) ∧ G w w' := by
  have g := G.refl w
  refine Ym (m := 21) Vdb rfl rfl [(0, True, _)] (Za rfl (Zd _)) ?_
  refine Zg fun K1 hK1 => ?_
  refine Zf [3] ?_
  refine Zc rfl (fun _ => Ze Zl) ?_
  refine Zh (hK1 _ _ ?_)
  refine Zg fun K2 hK2 => ?_
  refine Zf [3, 3, 3, 3, 3, 3, 3, 3, 3, 3, 3, 3, 3, 3, 3, 3, 3, 3, 3] ?_
  refine Zc rfl (fun _ => Zi (Zb rfl)) ?_
  refine Zc rfl (fun _ => Wla (Zb rfl) Zl) ?_
  refine Zc rfl (fun _ => Zi (Zb rfl)) ?_
  refine Zs rfl rfl rfl (fun _ => Zi (Zb rfl)) ?_
  refine Zs rfl rfl rfl (fun _ => Zxb (Zy rfl id) Zl) ?_
  refine Zc rfl (fun _ => Ye (Zb rfl) (Zy rfl id)) ?_
  refine Zc rfl (fun _ => Zi (Zb rfl)) ?_
  refine Zs rfl rfl rfl (fun _ => Zi (Zb rfl)) ?_
  refine Zs rfl rfl rfl (fun _ => Wla (Zy rfl id) Zl) ?_
  refine Zs rfl rfl rfl (fun _ => Zi (Zy rfl id)) ?_
  refine Zs rfl rfl rfl (fun _ => Zi (Zb rfl)) ?_
  refine Zs rfl rfl rfl (fun _ => Zxb (Zy rfl id) Zl) ?_
  refine Zs rfl rfl rfl (fun _ => Ye (Zy rfl id) (Zy rfl id)) ?_
  refine Zc rfl (fun _ => Yz (Zb rfl) (Zy rfl id)) ?_
  refine Zc rfl (fun _ => Zi (Zb rfl)) ?_
  refine Zs rfl rfl rfl (fun _ => Zi (Zb rfl)) ?_
  refine Zs rfl rfl rfl (fun _ => Yg (Zy rfl id) Zl) ?_
  refine Zc rfl (fun _ => Yz (Zb rfl) (Zy rfl id)) ?_
  refine Zc rfl (fun _ => Ze (Zb rfl)) ?_
  refine Zj [(2, _, _)] (Za rfl (Zd _)) ?_
  refine Zh (hK2 _ _ ?_)
  refine Yf (Yj rfl rfl ?_)
  exact ⟨rfl, g⟩
theorem Zwc (c : Int) (w : World) : Ret PP fn_scan_digit #[.int .u8 c] w fun v w' => v = .bool (digitB c) ∧ G w w' := by
  have g := G.refl w
  refine Ym (m := 9) Qrb rfl rfl [(0, True, _)] (Za rfl (Zd _)) ?_
  refine Zg fun K1 hK1 => ?_
  refine Zf [3] ?_
  refine Zc rfl (fun _ => Ze Zl) ?_
  refine Zh (hK1 _ _ ?_)
  refine Zg fun K2 hK2 => ?_
  refine Zf [3, 3, 3, 3, 3, 3, 3] ?_
  refine Zc rfl (fun _ => Zi (Zb rfl)) ?_
  refine Zc rfl (fun _ => Wla (Zb rfl) Zl) ?_
  refine Zc rfl (fun _ => Zi (Zb rfl)) ?_
  refine Zs rfl rfl rfl (fun _ => Zi (Zb rfl)) ?_
  refine Zs rfl rfl rfl (fun _ => Zxb (Zy rfl id) Zl) ?_
  refine Zc rfl (fun _ => Ye (Zb rfl) (Zy rfl id)) ?_
  refine Zc rfl (fun _ => Ze (Zb rfl)) ?_
  refine Zj [(2, _, _)] (Za rfl (Zd _)) ?_
  refine Zh (hK2 _ _ ?_)
  refine Yf (Yj rfl rfl ?_)
  exact ⟨rfl, g⟩
theorem notlf_ok (c : Int) (w : World) : Ret PP Usa #[.int .u8 c] w fun v w' => v = .bool (!decide (c = 10)) ∧ G w w' := by
  have g := G.refl w
  refine Ym (m := 5) Vga rfl rfl [(0, True, _)] (Za rfl (Zd _)) ?_
  refine Zg fun K1 hK1 => ?_
  refine Zf [3] ?_
  refine Zc rfl (fun _ => Ze Zl) ?_
  refine Zh (hK1 _ _ ?_)
  refine Zg fun K2 hK2 => ?_
  refine Zf [3, 3, 3] ?_
  refine Zc rfl (fun _ => Zi (Zb rfl)) ?_
  refine Zc rfl (fun _ => Qi (Zb rfl) Zl) ?_
  refine Zc rfl (fun _ => Ze (Zb rfl)) ?_
  refine Zj [(2, _, _)] (Za rfl (Zd _)) ?_
  refine Zh (hK2 _ _ ?_)
  refine Yf (Yj rfl rfl ?_)
  exact ⟨rfl, g⟩
theorem alnum_ok (c : Int) (w : World) : Ret PP Uua #[.int .u8 c] w fun v w' => v = .bool (letterB c || digitB c) ∧ G w w' := by
  have g := G.refl w
  refine Ym (m := 9) Vha rfl rfl [(0, True, _)] (Za rfl (Zd _)) ?_
  refine Zg fun K1 hK1 => ?_
  refine Zf [3] ?_
  refine Zc rfl (fun _ => Ze Zl) ?_
  refine Zh (hK1 _ _ ?_)
  refine Zg fun K2 hK2 => ?_
  refine Zf [3, 1, 3, 3, 1, 3, 3] ?_
  refine Zc rfl (fun _ => Zi (Zb rfl)) ?_
  refine Xe rfl (Zu Xta Yl (Zk (Zb rfl) (Zn)) rfl) (Vhb _ _) (fun w4 g4 => ?_)
  have g := g.trans (g4)
  refine Zc rfl (fun _ => Zi (Zb rfl)) ?_
  refine Zs rfl rfl rfl (fun _ => Zi (Zb rfl)) ?_
  refine Xb rfl rfl rfl (fun _ => (Zu Via Yl (Zk (Zy rfl id) (Zn)) rfl)) (fun hc => Zwc _ _) (fun w7 g7 => ?_)
  have g := g.trans (g7)
  refine Zc rfl (fun _ => Yz (Zb rfl) (Zy rfl id)) ?_
  refine Zc rfl (fun _ => Ze (Zb rfl)) ?_
  refine Zj [(2, _, _)] (Za rfl (Zd _)) ?_
  refine Zh (hK2 _ _ ?_)
  refine Yf (Yj rfl rfl ?_)
  exact ⟨rfl, g⟩
def kws : List (List UInt8) := [[116, 121, 112, 101], [115, 116, 114, 117, 99, 116], [118, 97, 114], [102, 117, 110, 99], [105, 102], [101, 108, 115, 101], [102, 111, 114], [114, 101, 116, 117, 114, 110], [103, 111], [100, 101, 102, 101, 114], [115, 101, 108, 101, 99, 116], [99, 97, 115, 101], [100, 101, 102, 97, 117, 108, 116], [99, 104, 97, 110], [110, 101, 119], [109, 97, 107, 101], [108, 101, 110], [116, 114, 117, 101], [102, 97, 108, 115, 101], [110, 105, 108], [112, 114, 105, 110, 116], [99, 108, 111, 115, 101], [105, 110, 116], [98, 111, 111, 108], [109, 117, 116, 101, 120], [114, 119, 109, 117, 116, 101, 120], [103, 114, 111, 117, 112], [111, 110, 99, 101], [97, 116, 111, 109, 105, 99]]
def endw : List (List UInt8) := [[116, 114, 117, 101], [102, 97, 108, 115, 101], [110, 105, 108], [114, 101, 116, 117, 114, 110], [105, 110, 116], [98, 111, 111, 108], [109, 117, 116, 101, 120], [114, 119, 109, 117, 116, 101, 120], [103, 114, 111, 117, 112], [111, 110, 99, 101], [97, 116, 111, 109, 105, 99], [41], [93], [125]]
def inB (l : List (List UInt8)) (s : List UInt8) : Bool := l.any fun k => decide (s = k)
theorem keyword_ok (s : List UInt8) (w : World) : Ret PP Qsb #[Str s] w fun v w' => v = .bool (inB kws s) ∧ G w w' := by
  have g := G.refl w
  refine Ym (m := 34) Wab rfl rfl [(0, True, _)] (Za rfl (Zd _)) ?_
  refine Zg fun K1 hK1 => ?_
  refine Zf [3] ?_
  refine Zc rfl (fun _ => Ze Zl) ?_
  refine Zh (hK1 _ _ ?_)
  refine Zg fun K2 hK2 => ?_
  refine Zg fun K3 hK3 => ?_
  refine Zf [3] ?_
  refine Zc rfl (fun _ => Zi (Zb rfl)) ?_
  refine Zj [(2, _, _), (3, _, _)] (Za rfl (Za rfl (Zd _))) ?_
  refine Zh (hK3 _ _ ?_)
  refine Yp ?_
  refine Zg fun K4 hK4 => ?_
  refine Zg fun K5 hK5 => ?_
  refine Zf [3, 3] ?_
  refine Zc rfl (fun _ => Yh (Zb rfl) Zl) ?_
  refine Zc rfl (fun _ => Ze (Zb rfl)) ?_
  refine Zj [(2, _, _), (3, _, _), (4, _, _)] (Za rfl (Za rfl (Za rfl (Zd _)))) ?_
  refine Zh (hK5 _ _ ?_)
  refine' Yk [(2, _, _)] (Za rfl (Za rfl (Zd _))) rfl (fun hb1 => ?y1) (hK4 _ _ ?n1)
  case y1 =>
   refine Zg fun K6 hK6 => ?_
   refine Zf [3, 3] ?_
   refine Zc rfl (fun _ => Yh (Zb rfl) Zl) ?_
   refine Zc rfl (fun _ => Ze (Zb rfl)) ?_
   refine Zj [(2, _, _), (3, _, _), (4, _, _)] (Za rfl (Za rfl (Za rfl (Zd _)))) ?_
   refine Zh (hK6 _ _ ?_)
   refine' Yk [(2, _, _)] (Za rfl (Za rfl (Zd _))) rfl (fun hb2 => ?y2) (fun a ha => ⟨ha, rfl⟩)
   case y2 =>
    refine Zg fun K7 hK7 => ?_
    refine Zf [3, 3] ?_
    refine Zc rfl (fun _ => Yh (Zb rfl) Zl) ?_
    refine Zc rfl (fun _ => Ze (Zb rfl)) ?_
    refine Zj [(2, _, _), (3, _, _), (4, _, _)] (Za rfl (Za rfl (Za rfl (Zd _)))) ?_
    refine Zh (hK7 _ _ ?_)
    refine' Yk [(2, _, _)] (Za rfl (Za rfl (Zd _))) rfl (fun hb3 => ?y3) (fun a ha => ⟨ha, rfl⟩)
    case y3 =>
     refine Zg fun K8 hK8 => ?_
     refine Zf [3, 3] ?_
     refine Zc rfl (fun _ => Yh (Zb rfl) Zl) ?_
     refine Zc rfl (fun _ => Ze (Zb rfl)) ?_
     refine Zj [(2, _, _), (3, _, _), (4, _, _)] (Za rfl (Za rfl (Za rfl (Zd _)))) ?_
     refine Zh (hK8 _ _ ?_)
     refine' Yk [(2, _, _)] (Za rfl (Za rfl (Zd _))) rfl (fun hb4 => ?y4) (fun a ha => ⟨ha, rfl⟩)
     case y4 =>
      refine Zg fun K9 hK9 => ?_
      refine Zf [3, 3] ?_
      refine Zc rfl (fun _ => Yh (Zb rfl) Zl) ?_
      refine Zc rfl (fun _ => Ze (Zb rfl)) ?_
      refine Zj [(2, _, _), (3, _, _), (4, _, _)] (Za rfl (Za rfl (Za rfl (Zd _)))) ?_
      refine Zh (hK9 _ _ ?_)
      refine' Yk [(2, _, _)] (Za rfl (Za rfl (Zd _))) rfl (fun hb5 => ?y5) (fun a ha => ⟨ha, rfl⟩)
      case y5 =>
       refine Zg fun K10 hK10 => ?_
       refine Zf [3, 3] ?_
       refine Zc rfl (fun _ => Yh (Zb rfl) Zl) ?_
       refine Zc rfl (fun _ => Ze (Zb rfl)) ?_
       refine Zj [(2, _, _), (3, _, _), (4, _, _)] (Za rfl (Za rfl (Za rfl (Zd _)))) ?_
       refine Zh (hK10 _ _ ?_)
       refine' Yk [(2, _, _)] (Za rfl (Za rfl (Zd _))) rfl (fun hb6 => ?y6) (fun a ha => ⟨ha, rfl⟩)
       case y6 =>
        refine Zg fun K11 hK11 => ?_
        refine Zf [3, 3] ?_
        refine Zc rfl (fun _ => Yh (Zb rfl) Zl) ?_
        refine Zc rfl (fun _ => Ze (Zb rfl)) ?_
        refine Zj [(2, _, _), (3, _, _), (4, _, _)] (Za rfl (Za rfl (Za rfl (Zd _)))) ?_
        refine Zh (hK11 _ _ ?_)
        refine' Yk [(2, _, _)] (Za rfl (Za rfl (Zd _))) rfl (fun hb7 => ?y7) (fun a ha => ⟨ha, rfl⟩)
        case y7 =>
         refine Zg fun K12 hK12 => ?_
         refine Zf [3, 3] ?_
         refine Zc rfl (fun _ => Yh (Zb rfl) Zl) ?_
         refine Zc rfl (fun _ => Ze (Zb rfl)) ?_
         refine Zj [(2, _, _), (3, _, _), (4, _, _)] (Za rfl (Za rfl (Za rfl (Zd _)))) ?_
         refine Zh (hK12 _ _ ?_)
         refine' Yk [(2, _, _)] (Za rfl (Za rfl (Zd _))) rfl (fun hb8 => ?y8) (fun a ha => ⟨ha, rfl⟩)
         case y8 =>
          refine Zg fun K13 hK13 => ?_
          refine Zf [3, 3] ?_
          refine Zc rfl (fun _ => Yh (Zb rfl) Zl) ?_
          refine Zc rfl (fun _ => Ze (Zb rfl)) ?_
          refine Zj [(2, _, _), (3, _, _), (4, _, _)] (Za rfl (Za rfl (Za rfl (Zd _)))) ?_
          refine Zh (hK13 _ _ ?_)
          refine' Yk [(2, _, _)] (Za rfl (Za rfl (Zd _))) rfl (fun hb9 => ?y9) (fun a ha => ⟨ha, rfl⟩)
          case y9 =>
           refine Zg fun K14 hK14 => ?_
           refine Zf [3, 3] ?_
           refine Zc rfl (fun _ => Yh (Zb rfl) Zl) ?_
           refine Zc rfl (fun _ => Ze (Zb rfl)) ?_
           refine Zj [(2, _, _), (3, _, _), (4, _, _)] (Za rfl (Za rfl (Za rfl (Zd _)))) ?_
           refine Zh (hK14 _ _ ?_)
           refine' Yk [(2, _, _)] (Za rfl (Za rfl (Zd _))) rfl (fun hb10 => ?y10) (fun a ha => ⟨ha, rfl⟩)
           case y10 =>
            refine Zg fun K15 hK15 => ?_
            refine Zf [3, 3] ?_
            refine Zc rfl (fun _ => Yh (Zb rfl) Zl) ?_
            refine Zc rfl (fun _ => Ze (Zb rfl)) ?_
            refine Zj [(2, _, _), (3, _, _), (4, _, _)] (Za rfl (Za rfl (Za rfl (Zd _)))) ?_
            refine Zh (hK15 _ _ ?_)
            refine' Yk [(2, _, _)] (Za rfl (Za rfl (Zd _))) rfl (fun hb11 => ?y11) (fun a ha => ⟨ha, rfl⟩)
            case y11 =>
             refine Zg fun K16 hK16 => ?_
             refine Zf [3, 3] ?_
             refine Zc rfl (fun _ => Yh (Zb rfl) Zl) ?_
             refine Zc rfl (fun _ => Ze (Zb rfl)) ?_
             refine Zj [(2, _, _), (3, _, _), (4, _, _)] (Za rfl (Za rfl (Za rfl (Zd _)))) ?_
             refine Zh (hK16 _ _ ?_)
             refine' Yk [(2, _, _)] (Za rfl (Za rfl (Zd _))) rfl (fun hb12 => ?y12) (fun a ha => ⟨ha, rfl⟩)
             case y12 =>
              refine Zg fun K17 hK17 => ?_
              refine Zf [3, 3] ?_
              refine Zc rfl (fun _ => Yh (Zb rfl) Zl) ?_
              refine Zc rfl (fun _ => Ze (Zb rfl)) ?_
              refine Zj [(2, _, _), (3, _, _), (4, _, _)] (Za rfl (Za rfl (Za rfl (Zd _)))) ?_
              refine Zh (hK17 _ _ ?_)
              refine' Yk [(2, _, _)] (Za rfl (Za rfl (Zd _))) rfl (fun hb13 => ?y13) (fun a ha => ⟨ha, rfl⟩)
              case y13 =>
               refine Zg fun K18 hK18 => ?_
               refine Zf [3, 3] ?_
               refine Zc rfl (fun _ => Yh (Zb rfl) Zl) ?_
               refine Zc rfl (fun _ => Ze (Zb rfl)) ?_
               refine Zj [(2, _, _), (3, _, _), (4, _, _)] (Za rfl (Za rfl (Za rfl (Zd _)))) ?_
               refine Zh (hK18 _ _ ?_)
               refine' Yk [(2, _, _)] (Za rfl (Za rfl (Zd _))) rfl (fun hb14 => ?y14) (fun a ha => ⟨ha, rfl⟩)
               case y14 =>
                refine Zg fun K19 hK19 => ?_
                refine Zf [3, 3] ?_
                refine Zc rfl (fun _ => Yh (Zb rfl) Zl) ?_
                refine Zc rfl (fun _ => Ze (Zb rfl)) ?_
                refine Zj [(2, _, _), (3, _, _), (4, _, _)] (Za rfl (Za rfl (Za rfl (Zd _)))) ?_
                refine Zh (hK19 _ _ ?_)
                refine' Yk [(2, _, _)] (Za rfl (Za rfl (Zd _))) rfl (fun hb15 => ?y15) (fun a ha => ⟨ha, rfl⟩)
                case y15 =>
                 refine Zg fun K20 hK20 => ?_
                 refine Zf [3, 3] ?_
                 refine Zc rfl (fun _ => Yh (Zb rfl) Zl) ?_
                 refine Zc rfl (fun _ => Ze (Zb rfl)) ?_
                 refine Zj [(2, _, _), (3, _, _), (4, _, _)] (Za rfl (Za rfl (Za rfl (Zd _)))) ?_
                 refine Zh (hK20 _ _ ?_)
                 refine' Yk [(2, _, _)] (Za rfl (Za rfl (Zd _))) rfl (fun hb16 => ?y16) (fun a ha => ⟨ha, rfl⟩)
                 case y16 =>
                  refine Zg fun K21 hK21 => ?_
                  refine Zf [3, 3] ?_
                  refine Zc rfl (fun _ => Yh (Zb rfl) Zl) ?_
                  refine Zc rfl (fun _ => Ze (Zb rfl)) ?_
                  refine Zj [(2, _, _), (3, _, _), (4, _, _)] (Za rfl (Za rfl (Za rfl (Zd _)))) ?_
                  refine Zh (hK21 _ _ ?_)
                  refine' Yk [(2, _, _)] (Za rfl (Za rfl (Zd _))) rfl (fun hb17 => ?y17) (fun a ha => ⟨ha, rfl⟩)
                  case y17 =>
                   refine Zg fun K22 hK22 => ?_
                   refine Zf [3, 3] ?_
                   refine Zc rfl (fun _ => Yh (Zb rfl) Zl) ?_
                   refine Zc rfl (fun _ => Ze (Zb rfl)) ?_
                   refine Zj [(2, _, _), (3, _, _), (4, _, _)] (Za rfl (Za rfl (Za rfl (Zd _)))) ?_
                   refine Zh (hK22 _ _ ?_)
                   refine' Yk [(2, _, _)] (Za rfl (Za rfl (Zd _))) rfl (fun hb18 => ?y18) (fun a ha => ⟨ha, rfl⟩)
                   case y18 =>
                    refine Zg fun K23 hK23 => ?_
                    refine Zf [3, 3] ?_
                    refine Zc rfl (fun _ => Yh (Zb rfl) Zl) ?_
                    refine Zc rfl (fun _ => Ze (Zb rfl)) ?_
                    refine Zj [(2, _, _), (3, _, _), (4, _, _)] (Za rfl (Za rfl (Za rfl (Zd _)))) ?_
                    refine Zh (hK23 _ _ ?_)
                    refine' Yk [(2, _, _)] (Za rfl (Za rfl (Zd _))) rfl (fun hb19 => ?y19) (fun a ha => ⟨ha, rfl⟩)
                    case y19 =>
                     refine Zg fun K24 hK24 => ?_
                     refine Zf [3, 3] ?_
                     refine Zc rfl (fun _ => Yh (Zb rfl) Zl) ?_
                     refine Zc rfl (fun _ => Ze (Zb rfl)) ?_
                     refine Zj [(2, _, _), (3, _, _), (4, _, _)] (Za rfl (Za rfl (Za rfl (Zd _)))) ?_
                     refine Zh (hK24 _ _ ?_)
                     refine' Yk [(2, _, _)] (Za rfl (Za rfl (Zd _))) rfl (fun hb20 => ?y20) (fun a ha => ⟨ha, rfl⟩)
                     case y20 =>
                      refine Zg fun K25 hK25 => ?_
                      refine Zf [3, 3] ?_
                      refine Zc rfl (fun _ => Yh (Zb rfl) Zl) ?_
                      refine Zc rfl (fun _ => Ze (Zb rfl)) ?_
                      refine Zj [(2, _, _), (3, _, _), (4, _, _)] (Za rfl (Za rfl (Za rfl (Zd _)))) ?_
                      refine Zh (hK25 _ _ ?_)
                      refine' Yk [(2, _, _)] (Za rfl (Za rfl (Zd _))) rfl (fun hb21 => ?y21) (fun a ha => ⟨ha, rfl⟩)
                      case y21 =>
                       refine Zg fun K26 hK26 => ?_
                       refine Zf [3, 3] ?_
                       refine Zc rfl (fun _ => Yh (Zb rfl) Zl) ?_
                       refine Zc rfl (fun _ => Ze (Zb rfl)) ?_
                       refine Zj [(2, _, _), (3, _, _), (4, _, _)] (Za rfl (Za rfl (Za rfl (Zd _)))) ?_
                       refine Zh (hK26 _ _ ?_)
                       refine' Yk [(2, _, _)] (Za rfl (Za rfl (Zd _))) rfl (fun hb22 => ?y22) (fun a ha => ⟨ha, rfl⟩)
                       case y22 =>
                        refine Zg fun K27 hK27 => ?_
                        refine Zf [3, 3] ?_
                        refine Zc rfl (fun _ => Yh (Zb rfl) Zl) ?_
                        refine Zc rfl (fun _ => Ze (Zb rfl)) ?_
                        refine Zj [(2, _, _), (3, _, _), (4, _, _)] (Za rfl (Za rfl (Za rfl (Zd _)))) ?_
                        refine Zh (hK27 _ _ ?_)
                        refine' Yk [(2, _, _)] (Za rfl (Za rfl (Zd _))) rfl (fun hb23 => ?y23) (fun a ha => ⟨ha, rfl⟩)
                        case y23 =>
                         refine Zg fun K28 hK28 => ?_
                         refine Zf [3, 3] ?_
                         refine Zc rfl (fun _ => Yh (Zb rfl) Zl) ?_
                         refine Zc rfl (fun _ => Ze (Zb rfl)) ?_
                         refine Zj [(2, _, _), (3, _, _), (4, _, _)] (Za rfl (Za rfl (Za rfl (Zd _)))) ?_
                         refine Zh (hK28 _ _ ?_)
                         refine' Yk [(2, _, _)] (Za rfl (Za rfl (Zd _))) rfl (fun hb24 => ?y24) (fun a ha => ⟨ha, rfl⟩)
                         case y24 =>
                          refine Zg fun K29 hK29 => ?_
                          refine Zf [3, 3] ?_
                          refine Zc rfl (fun _ => Yh (Zb rfl) Zl) ?_
                          refine Zc rfl (fun _ => Ze (Zb rfl)) ?_
                          refine Zj [(2, _, _), (3, _, _), (4, _, _)] (Za rfl (Za rfl (Za rfl (Zd _)))) ?_
                          refine Zh (hK29 _ _ ?_)
                          refine' Yk [(2, _, _)] (Za rfl (Za rfl (Zd _))) rfl (fun hb25 => ?y25) (fun a ha => ⟨ha, rfl⟩)
                          case y25 =>
                           refine Zg fun K30 hK30 => ?_
                           refine Zf [3, 3] ?_
                           refine Zc rfl (fun _ => Yh (Zb rfl) Zl) ?_
                           refine Zc rfl (fun _ => Ze (Zb rfl)) ?_
                           refine Zj [(2, _, _), (3, _, _), (4, _, _)] (Za rfl (Za rfl (Za rfl (Zd _)))) ?_
                           refine Zh (hK30 _ _ ?_)
                           refine' Yk [(2, _, _)] (Za rfl (Za rfl (Zd _))) rfl (fun hb26 => ?y26) (fun a ha => ⟨ha, rfl⟩)
                           case y26 =>
                            refine Zg fun K31 hK31 => ?_
                            refine Zf [3, 3] ?_
                            refine Zc rfl (fun _ => Yh (Zb rfl) Zl) ?_
                            refine Zc rfl (fun _ => Ze (Zb rfl)) ?_
                            refine Zj [(2, _, _), (3, _, _), (4, _, _)] (Za rfl (Za rfl (Za rfl (Zd _)))) ?_
                            refine Zh (hK31 _ _ ?_)
                            refine' Yk [(2, _, _)] (Za rfl (Za rfl (Zd _))) rfl (fun hb27 => ?y27) (fun a ha => ⟨ha, rfl⟩)
                            case y27 =>
                             refine Zg fun K32 hK32 => ?_
                             refine Zf [3, 3] ?_
                             refine Zc rfl (fun _ => Yh (Zb rfl) Zl) ?_
                             refine Zc rfl (fun _ => Ze (Zb rfl)) ?_
                             refine Zj [(2, _, _), (3, _, _), (4, _, _)] (Za rfl (Za rfl (Za rfl (Zd _)))) ?_
                             refine Zh (hK32 _ _ ?_)
                             refine' Yk [(2, _, _)] (Za rfl (Za rfl (Zd _))) rfl (fun hb28 => ?y28) (fun a ha => ⟨ha, rfl⟩)
                             case y28 =>
                              refine Zf [3, 3] ?_
                              refine Zc rfl (fun _ => Yh (Zb rfl) Zl) ?_
                              refine Zc rfl (fun _ => Ze (Zb rfl)) ?_
                              refine Zj [(4, _, _), (2, _, _)] (Za rfl (Za rfl (Zd _))) ?_
                              exact Zh (fun a ha => ⟨ha, rfl⟩)
  case n1 =>
   refine Zz (Zb rfl) (fun h29 => ?_) (fun h29 => ?_)
   · (try simp only [bsimp] at h29)
     refine Zg fun K33 hK33 => ?_
     refine Zf [3] ?_
     refine Zc rfl (fun _ => Ze Zl) ?_
     refine Zj [(2, _, _)] (Za rfl (Zd _)) ?_
     refine Zh (hK33 _ _ ?_)
     refine Yf (Yj rfl rfl ?_)
     refine ⟨?_, g⟩; simp only [inB, kws, List.any_cons, List.any_nil, Bool.or_false]; rw [h29]
   (try simp only [bsimp] at h29)
   refine Yq (hK2 _ _ ?_)
   refine Yi [(2, _, _)] (Za rfl (Zd _)) ?_
   refine Zg fun K34 hK34 => ?_
   refine Zf [3] ?_
   refine Zc rfl (fun _ => Ze Zl) ?_
   refine Zh (hK34 _ _ ?_)
   refine Yf (Yj rfl rfl ?_)
   refine ⟨?_, g⟩; simp only [inB, kws, List.any_cons, List.any_nil, Bool.or_false]; rw [h29]
theorem ending_ok (s : List UInt8) (w : World) : Ret PP Zrc #[Str s] w fun v w' => v = .bool (inB endw s) ∧ G w w' := by
  have g := G.refl w
  refine Ym (m := 19) Veb rfl rfl [(0, True, _)] (Za rfl (Zd _)) ?_
  refine Zg fun K1 hK1 => ?_
  refine Zf [3] ?_
  refine Zc rfl (fun _ => Ze Zl) ?_
  refine Zh (hK1 _ _ ?_)
  refine Zg fun K2 hK2 => ?_
  refine Zg fun K3 hK3 => ?_
  refine Zf [3] ?_
  refine Zc rfl (fun _ => Zi (Zb rfl)) ?_
  refine Zj [(2, _, _), (3, _, _)] (Za rfl (Za rfl (Zd _))) ?_
  refine Zh (hK3 _ _ ?_)
  refine Yp ?_
  refine Zg fun K4 hK4 => ?_
  refine Zg fun K5 hK5 => ?_
  refine Zf [3, 3] ?_
  refine Zc rfl (fun _ => Yh (Zb rfl) Zl) ?_
  refine Zc rfl (fun _ => Ze (Zb rfl)) ?_
  refine Zj [(2, _, _), (3, _, _), (4, _, _)] (Za rfl (Za rfl (Za rfl (Zd _)))) ?_
  refine Zh (hK5 _ _ ?_)
  refine' Yk [(2, _, _)] (Za rfl (Za rfl (Zd _))) rfl (fun hb1 => ?y1) (hK4 _ _ ?n1)
  case y1 =>
   refine Zg fun K6 hK6 => ?_
   refine Zf [3, 3] ?_
   refine Zc rfl (fun _ => Yh (Zb rfl) Zl) ?_
   refine Zc rfl (fun _ => Ze (Zb rfl)) ?_
   refine Zj [(2, _, _), (3, _, _), (4, _, _)] (Za rfl (Za rfl (Za rfl (Zd _)))) ?_
   refine Zh (hK6 _ _ ?_)
   refine' Yk [(2, _, _)] (Za rfl (Za rfl (Zd _))) rfl (fun hb2 => ?y2) (fun a ha => ⟨ha, rfl⟩)
   case y2 =>
    refine Zg fun K7 hK7 => ?_
    refine Zf [3, 3] ?_
    refine Zc rfl (fun _ => Yh (Zb rfl) Zl) ?_
    refine Zc rfl (fun _ => Ze (Zb rfl)) ?_
    refine Zj [(2, _, _), (3, _, _), (4, _, _)] (Za rfl (Za rfl (Za rfl (Zd _)))) ?_
    refine Zh (hK7 _ _ ?_)
    refine' Yk [(2, _, _)] (Za rfl (Za rfl (Zd _))) rfl (fun hb3 => ?y3) (fun a ha => ⟨ha, rfl⟩)
    case y3 =>
     refine Zg fun K8 hK8 => ?_
     refine Zf [3, 3] ?_
     refine Zc rfl (fun _ => Yh (Zb rfl) Zl) ?_
     refine Zc rfl (fun _ => Ze (Zb rfl)) ?_
     refine Zj [(2, _, _), (3, _, _), (4, _, _)] (Za rfl (Za rfl (Za rfl (Zd _)))) ?_
     refine Zh (hK8 _ _ ?_)
     refine' Yk [(2, _, _)] (Za rfl (Za rfl (Zd _))) rfl (fun hb4 => ?y4) (fun a ha => ⟨ha, rfl⟩)
     case y4 =>
      refine Zg fun K9 hK9 => ?_
      refine Zf [3, 3] ?_
      refine Zc rfl (fun _ => Yh (Zb rfl) Zl) ?_
      refine Zc rfl (fun _ => Ze (Zb rfl)) ?_
      refine Zj [(2, _, _), (3, _, _), (4, _, _)] (Za rfl (Za rfl (Za rfl (Zd _)))) ?_
      refine Zh (hK9 _ _ ?_)
      refine' Yk [(2, _, _)] (Za rfl (Za rfl (Zd _))) rfl (fun hb5 => ?y5) (fun a ha => ⟨ha, rfl⟩)
      case y5 =>
       refine Zg fun K10 hK10 => ?_
       refine Zf [3, 3] ?_
       refine Zc rfl (fun _ => Yh (Zb rfl) Zl) ?_
       refine Zc rfl (fun _ => Ze (Zb rfl)) ?_
       refine Zj [(2, _, _), (3, _, _), (4, _, _)] (Za rfl (Za rfl (Za rfl (Zd _)))) ?_
       refine Zh (hK10 _ _ ?_)
       refine' Yk [(2, _, _)] (Za rfl (Za rfl (Zd _))) rfl (fun hb6 => ?y6) (fun a ha => ⟨ha, rfl⟩)
       case y6 =>
        refine Zg fun K11 hK11 => ?_
        refine Zf [3, 3] ?_
        refine Zc rfl (fun _ => Yh (Zb rfl) Zl) ?_
        refine Zc rfl (fun _ => Ze (Zb rfl)) ?_
        refine Zj [(2, _, _), (3, _, _), (4, _, _)] (Za rfl (Za rfl (Za rfl (Zd _)))) ?_
        refine Zh (hK11 _ _ ?_)
        refine' Yk [(2, _, _)] (Za rfl (Za rfl (Zd _))) rfl (fun hb7 => ?y7) (fun a ha => ⟨ha, rfl⟩)
        case y7 =>
         refine Zg fun K12 hK12 => ?_
         refine Zf [3, 3] ?_
         refine Zc rfl (fun _ => Yh (Zb rfl) Zl) ?_
         refine Zc rfl (fun _ => Ze (Zb rfl)) ?_
         refine Zj [(2, _, _), (3, _, _), (4, _, _)] (Za rfl (Za rfl (Za rfl (Zd _)))) ?_
         refine Zh (hK12 _ _ ?_)
         refine' Yk [(2, _, _)] (Za rfl (Za rfl (Zd _))) rfl (fun hb8 => ?y8) (fun a ha => ⟨ha, rfl⟩)
         case y8 =>
          refine Zg fun K13 hK13 => ?_
          refine Zf [3, 3] ?_
          refine Zc rfl (fun _ => Yh (Zb rfl) Zl) ?_
          refine Zc rfl (fun _ => Ze (Zb rfl)) ?_
          refine Zj [(2, _, _), (3, _, _), (4, _, _)] (Za rfl (Za rfl (Za rfl (Zd _)))) ?_
          refine Zh (hK13 _ _ ?_)
          refine' Yk [(2, _, _)] (Za rfl (Za rfl (Zd _))) rfl (fun hb9 => ?y9) (fun a ha => ⟨ha, rfl⟩)
          case y9 =>
           refine Zg fun K14 hK14 => ?_
           refine Zf [3, 3] ?_
           refine Zc rfl (fun _ => Yh (Zb rfl) Zl) ?_
           refine Zc rfl (fun _ => Ze (Zb rfl)) ?_
           refine Zj [(2, _, _), (3, _, _), (4, _, _)] (Za rfl (Za rfl (Za rfl (Zd _)))) ?_
           refine Zh (hK14 _ _ ?_)
           refine' Yk [(2, _, _)] (Za rfl (Za rfl (Zd _))) rfl (fun hb10 => ?y10) (fun a ha => ⟨ha, rfl⟩)
           case y10 =>
            refine Zg fun K15 hK15 => ?_
            refine Zf [3, 3] ?_
            refine Zc rfl (fun _ => Yh (Zb rfl) Zl) ?_
            refine Zc rfl (fun _ => Ze (Zb rfl)) ?_
            refine Zj [(2, _, _), (3, _, _), (4, _, _)] (Za rfl (Za rfl (Za rfl (Zd _)))) ?_
            refine Zh (hK15 _ _ ?_)
            refine' Yk [(2, _, _)] (Za rfl (Za rfl (Zd _))) rfl (fun hb11 => ?y11) (fun a ha => ⟨ha, rfl⟩)
            case y11 =>
             refine Zg fun K16 hK16 => ?_
             refine Zf [3, 3] ?_
             refine Zc rfl (fun _ => Yh (Zb rfl) Zl) ?_
             refine Zc rfl (fun _ => Ze (Zb rfl)) ?_
             refine Zj [(2, _, _), (3, _, _), (4, _, _)] (Za rfl (Za rfl (Za rfl (Zd _)))) ?_
             refine Zh (hK16 _ _ ?_)
             refine' Yk [(2, _, _)] (Za rfl (Za rfl (Zd _))) rfl (fun hb12 => ?y12) (fun a ha => ⟨ha, rfl⟩)
             case y12 =>
              refine Zg fun K17 hK17 => ?_
              refine Zf [3, 3] ?_
              refine Zc rfl (fun _ => Yh (Zb rfl) Zl) ?_
              refine Zc rfl (fun _ => Ze (Zb rfl)) ?_
              refine Zj [(2, _, _), (3, _, _), (4, _, _)] (Za rfl (Za rfl (Za rfl (Zd _)))) ?_
              refine Zh (hK17 _ _ ?_)
              refine' Yk [(2, _, _)] (Za rfl (Za rfl (Zd _))) rfl (fun hb13 => ?y13) (fun a ha => ⟨ha, rfl⟩)
              case y13 =>
               refine Zf [3, 3] ?_
               refine Zc rfl (fun _ => Yh (Zb rfl) Zl) ?_
               refine Zc rfl (fun _ => Ze (Zb rfl)) ?_
               refine Zj [(4, _, _), (2, _, _)] (Za rfl (Za rfl (Zd _))) ?_
               exact Zh (fun a ha => ⟨ha, rfl⟩)
  case n1 =>
   refine Zz (Zb rfl) (fun h14 => ?_) (fun h14 => ?_)
   · (try simp only [bsimp] at h14)
     refine Zg fun K18 hK18 => ?_
     refine Zf [3] ?_
     refine Zc rfl (fun _ => Ze Zl) ?_
     refine Zj [(2, _, _)] (Za rfl (Zd _)) ?_
     refine Zh (hK18 _ _ ?_)
     refine Yf (Yj rfl rfl ?_)
     refine ⟨?_, g⟩; simp only [inB, endw, List.any_cons, List.any_nil, Bool.or_false]; rw [h14]
   (try simp only [bsimp] at h14)
   refine Yq (hK2 _ _ ?_)
   refine Yi [(2, _, _)] (Za rfl (Zd _)) ?_
   refine Zg fun K19 hK19 => ?_
   refine Zf [3] ?_
   refine Zc rfl (fun _ => Ze Zl) ?_
   refine Zh (hK19 _ _ ?_)
   refine Yf (Yj rfl rfl ?_)
   refine ⟨?_, g⟩; simp only [inB, endw, List.any_cons, List.any_nil, Bool.or_false]; rw [h14]
theorem Uhb (s : List UInt8) (w : World) : Ret PP Zjc #[Str s] w fun v w' => v = .bool (inB kws s) ∧ G w w' := by
  have g := G.refl w
  refine Ym (m := 34) Wyb rfl rfl [(0, True, _)] (Za rfl (Zd _)) ?_
  refine Zg fun K1 hK1 => ?_
  refine Zf [3] ?_
  refine Zc rfl (fun _ => Ze Zl) ?_
  refine Zh (hK1 _ _ ?_)
  refine Zg fun K2 hK2 => ?_
  refine Zg fun K3 hK3 => ?_
  refine Zf [3] ?_
  refine Zc rfl (fun _ => Zi (Zb rfl)) ?_
  refine Zj [(2, _, _), (3, _, _)] (Za rfl (Za rfl (Zd _))) ?_
  refine Zh (hK3 _ _ ?_)
  refine Yp ?_
  refine Zg fun K4 hK4 => ?_
  refine Zg fun K5 hK5 => ?_
  refine Zf [3, 3] ?_
  refine Zc rfl (fun _ => Yh (Zb rfl) Zl) ?_
  refine Zc rfl (fun _ => Ze (Zb rfl)) ?_
  refine Zj [(2, _, _), (3, _, _), (4, _, _)] (Za rfl (Za rfl (Za rfl (Zd _)))) ?_
  refine Zh (hK5 _ _ ?_)
  refine' Yk [(2, _, _)] (Za rfl (Za rfl (Zd _))) rfl (fun hb1 => ?y1) (hK4 _ _ ?n1)
  case y1 =>
   refine Zg fun K6 hK6 => ?_
   refine Zf [3, 3] ?_
   refine Zc rfl (fun _ => Yh (Zb rfl) Zl) ?_
   refine Zc rfl (fun _ => Ze (Zb rfl)) ?_
   refine Zj [(2, _, _), (3, _, _), (4, _, _)] (Za rfl (Za rfl (Za rfl (Zd _)))) ?_
   refine Zh (hK6 _ _ ?_)
   refine' Yk [(2, _, _)] (Za rfl (Za rfl (Zd _))) rfl (fun hb2 => ?y2) (fun a ha => ⟨ha, rfl⟩)
   case y2 =>
    refine Zg fun K7 hK7 => ?_
    refine Zf [3, 3] ?_
    refine Zc rfl (fun _ => Yh (Zb rfl) Zl) ?_
    refine Zc rfl (fun _ => Ze (Zb rfl)) ?_
    refine Zj [(2, _, _), (3, _, _), (4, _, _)] (Za rfl (Za rfl (Za rfl (Zd _)))) ?_
    refine Zh (hK7 _ _ ?_)
    refine' Yk [(2, _, _)] (Za rfl (Za rfl (Zd _))) rfl (fun hb3 => ?y3) (fun a ha => ⟨ha, rfl⟩)
    case y3 =>
     refine Zg fun K8 hK8 => ?_
     refine Zf [3, 3] ?_
     refine Zc rfl (fun _ => Yh (Zb rfl) Zl) ?_
     refine Zc rfl (fun _ => Ze (Zb rfl)) ?_
     refine Zj [(2, _, _), (3, _, _), (4, _, _)] (Za rfl (Za rfl (Za rfl (Zd _)))) ?_
     refine Zh (hK8 _ _ ?_)
     refine' Yk [(2, _, _)] (Za rfl (Za rfl (Zd _))) rfl (fun hb4 => ?y4) (fun a ha => ⟨ha, rfl⟩)
     case y4 =>
      refine Zg fun K9 hK9 => ?_
      refine Zf [3, 3] ?_
      refine Zc rfl (fun _ => Yh (Zb rfl) Zl) ?_
      refine Zc rfl (fun _ => Ze (Zb rfl)) ?_
      refine Zj [(2, _, _), (3, _, _), (4, _, _)] (Za rfl (Za rfl (Za rfl (Zd _)))) ?_
      refine Zh (hK9 _ _ ?_)
      refine' Yk [(2, _, _)] (Za rfl (Za rfl (Zd _))) rfl (fun hb5 => ?y5) (fun a ha => ⟨ha, rfl⟩)
      case y5 =>
       refine Zg fun K10 hK10 => ?_
       refine Zf [3, 3] ?_
       refine Zc rfl (fun _ => Yh (Zb rfl) Zl) ?_
       refine Zc rfl (fun _ => Ze (Zb rfl)) ?_
       refine Zj [(2, _, _), (3, _, _), (4, _, _)] (Za rfl (Za rfl (Za rfl (Zd _)))) ?_
       refine Zh (hK10 _ _ ?_)
       refine' Yk [(2, _, _)] (Za rfl (Za rfl (Zd _))) rfl (fun hb6 => ?y6) (fun a ha => ⟨ha, rfl⟩)
       case y6 =>
        refine Zg fun K11 hK11 => ?_
        refine Zf [3, 3] ?_
        refine Zc rfl (fun _ => Yh (Zb rfl) Zl) ?_
        refine Zc rfl (fun _ => Ze (Zb rfl)) ?_
        refine Zj [(2, _, _), (3, _, _), (4, _, _)] (Za rfl (Za rfl (Za rfl (Zd _)))) ?_
        refine Zh (hK11 _ _ ?_)
        refine' Yk [(2, _, _)] (Za rfl (Za rfl (Zd _))) rfl (fun hb7 => ?y7) (fun a ha => ⟨ha, rfl⟩)
        case y7 =>
         refine Zg fun K12 hK12 => ?_
         refine Zf [3, 3] ?_
         refine Zc rfl (fun _ => Yh (Zb rfl) Zl) ?_
         refine Zc rfl (fun _ => Ze (Zb rfl)) ?_
         refine Zj [(2, _, _), (3, _, _), (4, _, _)] (Za rfl (Za rfl (Za rfl (Zd _)))) ?_
         refine Zh (hK12 _ _ ?_)
         refine' Yk [(2, _, _)] (Za rfl (Za rfl (Zd _))) rfl (fun hb8 => ?y8) (fun a ha => ⟨ha, rfl⟩)
         case y8 =>
          refine Zg fun K13 hK13 => ?_
          refine Zf [3, 3] ?_
          refine Zc rfl (fun _ => Yh (Zb rfl) Zl) ?_
          refine Zc rfl (fun _ => Ze (Zb rfl)) ?_
          refine Zj [(2, _, _), (3, _, _), (4, _, _)] (Za rfl (Za rfl (Za rfl (Zd _)))) ?_
          refine Zh (hK13 _ _ ?_)
          refine' Yk [(2, _, _)] (Za rfl (Za rfl (Zd _))) rfl (fun hb9 => ?y9) (fun a ha => ⟨ha, rfl⟩)
          case y9 =>
           refine Zg fun K14 hK14 => ?_
           refine Zf [3, 3] ?_
           refine Zc rfl (fun _ => Yh (Zb rfl) Zl) ?_
           refine Zc rfl (fun _ => Ze (Zb rfl)) ?_
           refine Zj [(2, _, _), (3, _, _), (4, _, _)] (Za rfl (Za rfl (Za rfl (Zd _)))) ?_
           refine Zh (hK14 _ _ ?_)
           refine' Yk [(2, _, _)] (Za rfl (Za rfl (Zd _))) rfl (fun hb10 => ?y10) (fun a ha => ⟨ha, rfl⟩)
           case y10 =>
            refine Zg fun K15 hK15 => ?_
            refine Zf [3, 3] ?_
            refine Zc rfl (fun _ => Yh (Zb rfl) Zl) ?_
            refine Zc rfl (fun _ => Ze (Zb rfl)) ?_
            refine Zj [(2, _, _), (3, _, _), (4, _, _)] (Za rfl (Za rfl (Za rfl (Zd _)))) ?_
            refine Zh (hK15 _ _ ?_)
            refine' Yk [(2, _, _)] (Za rfl (Za rfl (Zd _))) rfl (fun hb11 => ?y11) (fun a ha => ⟨ha, rfl⟩)
            case y11 =>
             refine Zg fun K16 hK16 => ?_
             refine Zf [3, 3] ?_
             refine Zc rfl (fun _ => Yh (Zb rfl) Zl) ?_
             refine Zc rfl (fun _ => Ze (Zb rfl)) ?_
             refine Zj [(2, _, _), (3, _, _), (4, _, _)] (Za rfl (Za rfl (Za rfl (Zd _)))) ?_
             refine Zh (hK16 _ _ ?_)
             refine' Yk [(2, _, _)] (Za rfl (Za rfl (Zd _))) rfl (fun hb12 => ?y12) (fun a ha => ⟨ha, rfl⟩)
             case y12 =>
              refine Zg fun K17 hK17 => ?_
              refine Zf [3, 3] ?_
              refine Zc rfl (fun _ => Yh (Zb rfl) Zl) ?_
              refine Zc rfl (fun _ => Ze (Zb rfl)) ?_
              refine Zj [(2, _, _), (3, _, _), (4, _, _)] (Za rfl (Za rfl (Za rfl (Zd _)))) ?_
              refine Zh (hK17 _ _ ?_)
              refine' Yk [(2, _, _)] (Za rfl (Za rfl (Zd _))) rfl (fun hb13 => ?y13) (fun a ha => ⟨ha, rfl⟩)
              case y13 =>
               refine Zg fun K18 hK18 => ?_
               refine Zf [3, 3] ?_
               refine Zc rfl (fun _ => Yh (Zb rfl) Zl) ?_
               refine Zc rfl (fun _ => Ze (Zb rfl)) ?_
               refine Zj [(2, _, _), (3, _, _), (4, _, _)] (Za rfl (Za rfl (Za rfl (Zd _)))) ?_
               refine Zh (hK18 _ _ ?_)
               refine' Yk [(2, _, _)] (Za rfl (Za rfl (Zd _))) rfl (fun hb14 => ?y14) (fun a ha => ⟨ha, rfl⟩)
               case y14 =>
                refine Zg fun K19 hK19 => ?_
                refine Zf [3, 3] ?_
                refine Zc rfl (fun _ => Yh (Zb rfl) Zl) ?_
                refine Zc rfl (fun _ => Ze (Zb rfl)) ?_
                refine Zj [(2, _, _), (3, _, _), (4, _, _)] (Za rfl (Za rfl (Za rfl (Zd _)))) ?_
                refine Zh (hK19 _ _ ?_)
                refine' Yk [(2, _, _)] (Za rfl (Za rfl (Zd _))) rfl (fun hb15 => ?y15) (fun a ha => ⟨ha, rfl⟩)
                case y15 =>
                 refine Zg fun K20 hK20 => ?_
                 refine Zf [3, 3] ?_
                 refine Zc rfl (fun _ => Yh (Zb rfl) Zl) ?_
                 refine Zc rfl (fun _ => Ze (Zb rfl)) ?_
                 refine Zj [(2, _, _), (3, _, _), (4, _, _)] (Za rfl (Za rfl (Za rfl (Zd _)))) ?_
                 refine Zh (hK20 _ _ ?_)
                 refine' Yk [(2, _, _)] (Za rfl (Za rfl (Zd _))) rfl (fun hb16 => ?y16) (fun a ha => ⟨ha, rfl⟩)
                 case y16 =>
                  refine Zg fun K21 hK21 => ?_
                  refine Zf [3, 3] ?_
                  refine Zc rfl (fun _ => Yh (Zb rfl) Zl) ?_
                  refine Zc rfl (fun _ => Ze (Zb rfl)) ?_
                  refine Zj [(2, _, _), (3, _, _), (4, _, _)] (Za rfl (Za rfl (Za rfl (Zd _)))) ?_
                  refine Zh (hK21 _ _ ?_)
                  refine' Yk [(2, _, _)] (Za rfl (Za rfl (Zd _))) rfl (fun hb17 => ?y17) (fun a ha => ⟨ha, rfl⟩)
                  case y17 =>
                   refine Zg fun K22 hK22 => ?_
                   refine Zf [3, 3] ?_
                   refine Zc rfl (fun _ => Yh (Zb rfl) Zl) ?_
                   refine Zc rfl (fun _ => Ze (Zb rfl)) ?_
                   refine Zj [(2, _, _), (3, _, _), (4, _, _)] (Za rfl (Za rfl (Za rfl (Zd _)))) ?_
                   refine Zh (hK22 _ _ ?_)
                   refine' Yk [(2, _, _)] (Za rfl (Za rfl (Zd _))) rfl (fun hb18 => ?y18) (fun a ha => ⟨ha, rfl⟩)
                   case y18 =>
                    refine Zg fun K23 hK23 => ?_
                    refine Zf [3, 3] ?_
                    refine Zc rfl (fun _ => Yh (Zb rfl) Zl) ?_
                    refine Zc rfl (fun _ => Ze (Zb rfl)) ?_
                    refine Zj [(2, _, _), (3, _, _), (4, _, _)] (Za rfl (Za rfl (Za rfl (Zd _)))) ?_
                    refine Zh (hK23 _ _ ?_)
                    refine' Yk [(2, _, _)] (Za rfl (Za rfl (Zd _))) rfl (fun hb19 => ?y19) (fun a ha => ⟨ha, rfl⟩)
                    case y19 =>
                     refine Zg fun K24 hK24 => ?_
                     refine Zf [3, 3] ?_
                     refine Zc rfl (fun _ => Yh (Zb rfl) Zl) ?_
                     refine Zc rfl (fun _ => Ze (Zb rfl)) ?_
                     refine Zj [(2, _, _), (3, _, _), (4, _, _)] (Za rfl (Za rfl (Za rfl (Zd _)))) ?_
                     refine Zh (hK24 _ _ ?_)
                     refine' Yk [(2, _, _)] (Za rfl (Za rfl (Zd _))) rfl (fun hb20 => ?y20) (fun a ha => ⟨ha, rfl⟩)
                     case y20 =>
                      refine Zg fun K25 hK25 => ?_
                      refine Zf [3, 3] ?_
                      refine Zc rfl (fun _ => Yh (Zb rfl) Zl) ?_
                      refine Zc rfl (fun _ => Ze (Zb rfl)) ?_
                      refine Zj [(2, _, _), (3, _, _), (4, _, _)] (Za rfl (Za rfl (Za rfl (Zd _)))) ?_
                      refine Zh (hK25 _ _ ?_)
                      refine' Yk [(2, _, _)] (Za rfl (Za rfl (Zd _))) rfl (fun hb21 => ?y21) (fun a ha => ⟨ha, rfl⟩)
                      case y21 =>
                       refine Zg fun K26 hK26 => ?_
                       refine Zf [3, 3] ?_
                       refine Zc rfl (fun _ => Yh (Zb rfl) Zl) ?_
                       refine Zc rfl (fun _ => Ze (Zb rfl)) ?_
                       refine Zj [(2, _, _), (3, _, _), (4, _, _)] (Za rfl (Za rfl (Za rfl (Zd _)))) ?_
                       refine Zh (hK26 _ _ ?_)
                       refine' Yk [(2, _, _)] (Za rfl (Za rfl (Zd _))) rfl (fun hb22 => ?y22) (fun a ha => ⟨ha, rfl⟩)
                       case y22 =>
                        refine Zg fun K27 hK27 => ?_
                        refine Zf [3, 3] ?_
                        refine Zc rfl (fun _ => Yh (Zb rfl) Zl) ?_
                        refine Zc rfl (fun _ => Ze (Zb rfl)) ?_
                        refine Zj [(2, _, _), (3, _, _), (4, _, _)] (Za rfl (Za rfl (Za rfl (Zd _)))) ?_
                        refine Zh (hK27 _ _ ?_)
                        refine' Yk [(2, _, _)] (Za rfl (Za rfl (Zd _))) rfl (fun hb23 => ?y23) (fun a ha => ⟨ha, rfl⟩)
                        case y23 =>
                         refine Zg fun K28 hK28 => ?_
                         refine Zf [3, 3] ?_
                         refine Zc rfl (fun _ => Yh (Zb rfl) Zl) ?_
                         refine Zc rfl (fun _ => Ze (Zb rfl)) ?_
                         refine Zj [(2, _, _), (3, _, _), (4, _, _)] (Za rfl (Za rfl (Za rfl (Zd _)))) ?_
                         refine Zh (hK28 _ _ ?_)
                         refine' Yk [(2, _, _)] (Za rfl (Za rfl (Zd _))) rfl (fun hb24 => ?y24) (fun a ha => ⟨ha, rfl⟩)
                         case y24 =>
                          refine Zg fun K29 hK29 => ?_
                          refine Zf [3, 3] ?_
                          refine Zc rfl (fun _ => Yh (Zb rfl) Zl) ?_
                          refine Zc rfl (fun _ => Ze (Zb rfl)) ?_
                          refine Zj [(2, _, _), (3, _, _), (4, _, _)] (Za rfl (Za rfl (Za rfl (Zd _)))) ?_
                          refine Zh (hK29 _ _ ?_)
                          refine' Yk [(2, _, _)] (Za rfl (Za rfl (Zd _))) rfl (fun hb25 => ?y25) (fun a ha => ⟨ha, rfl⟩)
                          case y25 =>
                           refine Zg fun K30 hK30 => ?_
                           refine Zf [3, 3] ?_
                           refine Zc rfl (fun _ => Yh (Zb rfl) Zl) ?_
                           refine Zc rfl (fun _ => Ze (Zb rfl)) ?_
                           refine Zj [(2, _, _), (3, _, _), (4, _, _)] (Za rfl (Za rfl (Za rfl (Zd _)))) ?_
                           refine Zh (hK30 _ _ ?_)
                           refine' Yk [(2, _, _)] (Za rfl (Za rfl (Zd _))) rfl (fun hb26 => ?y26) (fun a ha => ⟨ha, rfl⟩)
                           case y26 =>
                            refine Zg fun K31 hK31 => ?_
                            refine Zf [3, 3] ?_
                            refine Zc rfl (fun _ => Yh (Zb rfl) Zl) ?_
                            refine Zc rfl (fun _ => Ze (Zb rfl)) ?_
                            refine Zj [(2, _, _), (3, _, _), (4, _, _)] (Za rfl (Za rfl (Za rfl (Zd _)))) ?_
                            refine Zh (hK31 _ _ ?_)
                            refine' Yk [(2, _, _)] (Za rfl (Za rfl (Zd _))) rfl (fun hb27 => ?y27) (fun a ha => ⟨ha, rfl⟩)
                            case y27 =>
                             refine Zg fun K32 hK32 => ?_
                             refine Zf [3, 3] ?_
                             refine Zc rfl (fun _ => Yh (Zb rfl) Zl) ?_
                             refine Zc rfl (fun _ => Ze (Zb rfl)) ?_
                             refine Zj [(2, _, _), (3, _, _), (4, _, _)] (Za rfl (Za rfl (Za rfl (Zd _)))) ?_
                             refine Zh (hK32 _ _ ?_)
                             refine' Yk [(2, _, _)] (Za rfl (Za rfl (Zd _))) rfl (fun hb28 => ?y28) (fun a ha => ⟨ha, rfl⟩)
                             case y28 =>
                              refine Zf [3, 3] ?_
                              refine Zc rfl (fun _ => Yh (Zb rfl) Zl) ?_
                              refine Zc rfl (fun _ => Ze (Zb rfl)) ?_
                              refine Zj [(4, _, _), (2, _, _)] (Za rfl (Za rfl (Zd _))) ?_
                              exact Zh (fun a ha => ⟨ha, rfl⟩)
  case n1 =>
   refine Zz (Zb rfl) (fun h29 => ?_) (fun h29 => ?_)
   · (try simp only [bsimp] at h29)
     refine Zg fun K33 hK33 => ?_
     refine Zf [3] ?_
     refine Zc rfl (fun _ => Ze Zl) ?_
     refine Zj [(2, _, _)] (Za rfl (Zd _)) ?_
     refine Zh (hK33 _ _ ?_)
     refine Yf (Yj rfl rfl ?_)
     refine ⟨?_, g⟩; simp only [inB, kws, List.any_cons, List.any_nil, Bool.or_false]; rw [h29]
   (try simp only [bsimp] at h29)
   refine Yq (hK2 _ _ ?_)
   refine Yi [(2, _, _)] (Za rfl (Zd _)) ?_
   refine Zg fun K34 hK34 => ?_
   refine Zf [3] ?_
   refine Zc rfl (fun _ => Ze Zl) ?_
   refine Zh (hK34 _ _ ?_)
   refine Yf (Yj rfl rfl ?_)
   refine ⟨?_, g⟩; simp only [inB, kws, List.any_cons, List.any_nil, Bool.or_false]; rw [h29]
end Go.Rk
namespace Go.Rk
open Go Go.RowKit
def preB (p s : List UInt8) : Bool := decide (p.length ≤ s.length) && decide (s.take p.length = p)
theorem hasprefix_ok (s p : List UInt8) (w : World) : Ret PP Jw #[Str s, Str p] w fun v w' => v = .bool (preB p s) ∧ G w w' := by
 have g := G.refl w
 refine Ym (m := 18) Jl rfl rfl [(0, True, _), (1, True, _)] (Za rfl (Za rfl (Zd _))) ?_
 refine Zg fun K1 hK1 => ?_
 refine Zf [3] ?_
 refine Zc rfl (fun _ => Ze Zl) ?_
 refine Zh (hK1 _ _ ?_)
 refine Zg fun K2 hK2 => ?_
 refine Zf [3, 3, 3, 3, 3, 3, 3, 3, 3, 3, 3, 3, 3, 3] ?_
 refine Zc rfl (fun _ => Zi (Zb rfl)) ?_
 refine Zc rfl (fun _ => Wz Yv (Zb rfl)) ?_
 refine Zc rfl (fun _ => Zi (Zb rfl)) ?_
 refine Zc rfl (fun _ => Wz Yv (Zb rfl)) ?_
 refine Zc rfl (fun _ => Wla (Zb rfl) (Zb rfl)) ?_
 refine Zc rfl (fun _ => Zi (Zb rfl)) ?_
 refine Zs rfl rfl rfl (fun _ => Zi (Zb rfl)) ?_
 refine Zs rfl rfl rfl (fun _ => Zi (Zb rfl)) ?_
 refine Zs rfl rfl rfl (fun _ => Wz Yv (Zy rfl id)) ?_
 refine Zs rfl rfl rfl (fun _ => Wsb Yv (Zy rfl id) (Zy rfl id) (fun hc => ⟨by omega, by have := of_decide_eq_true hc.2; omega⟩)) ?_
 refine Zs rfl rfl rfl (fun _ => Zi (Zb rfl)) ?_
 refine Zs rfl rfl rfl (fun _ => Yh (Zy rfl id) (Zy rfl id)) ?_
 refine Zc rfl (fun _ => Ye (Zb rfl) (Zy rfl id)) ?_
 refine Zc rfl (fun _ => Ze (Zb rfl)) ?_
 refine Zj [(4, _, _)] (Za rfl (Zd _)) ?_
 refine Zh (hK2 _ _ ?_)
 refine Yf (Yj rfl rfl ?_)
 refine ⟨?_, g⟩; unfold preB; simp
theorem Yfb (s p : List UInt8) (w : World) : Ret PP Jga #[Str s, Str p] w fun v w' => v = .bool (preB p s) ∧ G w w' := by
 have g := G.refl w
 refine Ym (m := 8) Ura rfl rfl [(0, True, _), (1, True, _)] (Za rfl (Za rfl (Zd _))) ?_
 refine Zg fun K1 hK1 => ?_
 refine Zf [3] ?_
 refine Zc rfl (fun _ => Ze Zl) ?_
 refine Zh (hK1 _ _ ?_)
 refine Zg fun K2 hK2 => ?_
 refine Zf [3, 3, 1, 3] ?_
 refine Zc rfl (fun _ => Zi (Zb rfl)) ?_
 refine Zc rfl (fun _ => Zi (Zb rfl)) ?_
 refine Xe rfl (Zu Jy Yl (Zk (Zb rfl) (Zk (Zb rfl) (Zn))) rfl) (hasprefix_ok _ _ _) (fun w7 g7 => ?_)
 have g := g.trans (g7)
 refine Zc rfl (fun _ => Ze (Zb rfl)) ?_
 refine Zj [(4, _, _)] (Za rfl (Zd _)) ?_
 refine Zh (hK2 _ _ ?_)
 refine Yf (Yj rfl rfl ?_)
 exact ⟨rfl, g⟩

structure Tok where
 kind : Int
 text : List UInt8
 pos : Int
def tokCells (t : Tok) : List Value := [.int .i64 t.kind, Str t.text, .int .i64 t.pos]
def toksCells (l : List Tok) : List Value := l.flatMap tokCells
theorem Vwa (l : List Tok) : (toksCells l).length = l.length * 3 := by
 unfold toksCells
 induction l with
 | nil => rfl
 | cons t l ih => rw [List.flatMap_cons, List.length_append, ih]; simp [tokCells]; omega
theorem Qe (l : List Tok) (t : Tok) : toksCells (l ++ [t]) = toksCells l ++ tokCells t := by simp [toksCells]
def Scn (base b : Nat) (s : List UInt8) (p : Nat) (ts cs : List Tok) (w : World) : Prop :=
 ∃ ta tc ca cc, Blk w b Qw [Str s, .int .i64 p, .slice ta ts.length tc, .slice ca cs.length cc] ∧ base ≤ b ∧ w.ownsRow base Vf 3 (.slice ta ts.length tc) ts.length (toksCells ts) ∧
  w.ownsRow base Vf 3 (.slice ca cs.length cc) cs.length (toksCells cs) ∧ (Value.slice ta ts.length tc).ownBlock ≠ some b ∧ (Value.slice ca cs.length cc).ownBlock ≠ some b ∧
  (∀ k, (Value.slice ta ts.length tc).ownBlock = some k → (Value.slice ca cs.length cc).ownBlock ≠ some k) ∧ ts.length ≤ p ∧ cs.length ≤ p ∧ p ≤ s.length ∧ s.length ≤ 20000

theorem Zia {w : World} {base : Nat} {e : TypeId} {z : Nat} {tv tv' cv : Value} {m : Nat} {xs : List Value} (hc : w.ownsRow base e z cv m xs) (n3 : ∀ k, tv.ownBlock = some k → cv.ownBlock ≠ some k)
  (hat : tv'.ownBlock = tv.ownBlock ∨ tv'.ownBlock = some w.heap.size) : ∀ k, tv'.ownBlock = some k → cv.ownBlock ≠ some k := by
 intro k hk
 rcases hat with e | e
 ·exact n3 k (e ▸ hk)
 ·rw [e] at hk; injection hk with hk; subst hk; exact own_ne hc (Nat.le_refl _)
theorem Vib {w : World} {b : Nat} {tv tv' : Value} (hb : b < w.heap.size) (n1 : tv.ownBlock ≠ some b) (hat : tv'.ownBlock = tv.ownBlock ∨ tv'.ownBlock = some w.heap.size) : tv'.ownBlock ≠ some b := by
 rcases hat with e | e <;> rw [e]
 ·exact n1
 ·intro h; injection h with h; omega
theorem Vxa {w w' : World} {base : Nat} {e : TypeId} {z : Nat} {tv cv : Value} {m : Nat} {xs : List Value} (hc : w.ownsRow base e z cv m xs) (n3 : ∀ k, tv.ownBlock = some k → cv.ownBlock ≠ some k) (hg : w.grownBy w' tv.ownBlock) : w'.ownsRow base e z cv m xs :=
 Vx hc hg (by rcases hq : cv.ownBlock with _ | k; exact .inl rfl; exact .inr (fun he => n3 k he.symm hq))

theorem put_ok (base b : Nat) (s : List UInt8) (p : Nat) (ts cs : List Tok) (kind : Int) (size : Nat) (w : World) (hs : Scn base b s p ts cs w) (h1 : 1 ≤ size) (h2 : p + size ≤ s.length) :
  Ret PP Ztb #[.pointer (some ⟨b, 0, none⟩), .int .i64 kind, .int .i64 size] w fun v w' => v = .tuple #[] ∧ Scn base b s (p + size) (ts ++ [⟨kind, (s.drop p).take size, p⟩]) cs w' ∧ Below base w w' := by
 obtain ⟨ta, tc, ca, cc, hB, hb0, ht, hc, n1, n2, n3, k1, k2, k3, k4⟩ := hs
 have hb : Below base w w := Below.refl _ _
 have hlt := hB.lt
 refine Ym (m := 44) Qja rfl rfl [(0, True, _), (1, True, _), (2, True, _)] (Za rfl (Za rfl (Za rfl (Zd _)))) ?_
 refine Zg fun K1 hK1 => ?_
 refine Vm [3, 3, 3, 3, 0, 3, 3, 3, 3, 0, 3, 3, 3, 0, 3, 3, 3, 0, 3, 3, 3, 3, 3, 3, 0, 3, 1, 2, 3, 3, 2] [true, true, true, true, true, true, true, true, true, true, true, true, true, true, true, true, true, true, true, true, true, true, true, true, true, true, true, true, true, true, true] [0, 0, 2, 6, 14, 0, 0, 64, 192, 448, 0, 1024, 3072, 7168, 0, 16384, 49152, 114688, 0, 507904, 1048512, 0, 2097152, 6291456, 14680064, 33554400, 67108832, 134217726, 268435455, 536870911, 1073741823] mix (by kernel_rfl) ?_
 have hb := hb.drew
 have hB : Blk w.drew _ _ _ := hB
 have ht := own_drew ht
 have hc := own_drew hc
 refine Zc rfl (fun _ => Zi (Zb rfl)) ?_
 refine Zc rfl (fun _ => Zi (Zb rfl)) ?_
 refine Zc rfl (fun _ => Xl (Zb rfl)) ?_
 refine Zc rfl (fun _ => Zm Vp (Zb rfl)) ?_
 refine Ya rfl (Zt Uk (Zb rfl) (fun _ => hB.at_ rfl)) ?_
 refine Zc rfl (fun _ => Zi (Zb rfl)) ?_
 refine Zc rfl (fun _ => Zi (Zb rfl)) ?_
 refine Zc rfl (fun _ => Xl (Zb rfl)) ?_
 refine Zc rfl (fun _ => Zm Wf (Zb rfl)) ?_
 refine Ya rfl (Zt Yt (Zb rfl) (fun _ => hB.at_ rfl)) ?_
 refine Zc rfl (fun _ => Zi (Zb rfl)) ?_
 refine Zc rfl (fun _ => Xl (Zb rfl)) ?_
 refine Zc rfl (fun _ => Zm Yx (Zb rfl)) ?_
 refine Ya rfl (Zt Yy (Zb rfl) (fun _ => hB.at_ rfl)) ?_
 refine Zc rfl (fun _ => Zi (Zb rfl)) ?_
 refine Zc rfl (fun _ => Xl (Zb rfl)) ?_
 refine Zc rfl (fun _ => Zm Yx (Zb rfl)) ?_
 refine Ya rfl (Zt Yy (Zb rfl) (fun _ => hB.at_ rfl)) ?_
 refine Zc rfl (fun _ => Zi (Zb rfl)) ?_
 refine Zc rfl (fun _ => Xq (Zb rfl) (Zb rfl) (fun _ => by omega)) ?_
 refine Zc rfl (fun _ => Qoa Yv (Zb rfl) (Zb rfl) (Zb rfl) (fun _ => by omega)) ?_
 refine Zc rfl (fun _ => Zi (Zb rfl)) ?_
 refine Zc rfl (fun _ => Xl (Zb rfl)) ?_
 refine Zc rfl (fun _ => Zm Yx (Zb rfl)) ?_
 refine Ya rfl (Zt Yy (Zb rfl) (fun _ => hB.at_ rfl)) ?_
 refine Zc rfl (fun _ => We [_, _, _] Xn rfl Vw (Zp (Zb rfl) (Zp (Zb rfl) (Zp (Zb rfl) (Yc)))) rfl) ?_
 refine Zx [_, _, _] rfl Xk Xn (Zp (Zb rfl) (Yc)) rfl rfl ?_
 intro b32 w32 N32
 have hb := hb.trans (Ug N32.g (by show base ≤ w.heap.size; omega))
 have hB := hB.grow N32.g
 have ht := Zca ht N32.g
 have hc := Zca hc N32.g
 have hlt := hB.lt
 have B32 := N32.blk
 refine Jt rfl Xk Xn rfl (by decide) (Zb rfl) ht (Zb rfl) rfl N32.blk.row rfl (by simp only [maxLen]; omega) (by omega) (by omega) ?_
 intro ta' tc' w33 ht' hg hat
 have hb := Vd hb hg (by omega) (fun k hk => (ht.lt k hk).1)
 have hB := hB.keep hg (Ne.symm n1)
 have n3' := Zia hc n3 hat
 have hc := Vxa hc n3 hg
 have n3 := n3'
 have n1 := Vib hlt n1 hat
 refine Zc rfl (fun _ => Xl (Zb rfl)) ?_
 refine Zc rfl (fun _ => Zm Vp (Zb rfl)) ?_
 refine Us rfl Yya (Zb rfl) (Zb rfl) rfl rfl hB rfl rfl ?_
 intro w34 hg2 hz2 hB
 have hb := Vd hb hg2 (by have := hb.size; omega) (fun k hk => by injection hk with hk; omega)
 have ht' := Vx ht' hg2 (.inr n1)
 have hc := Vx hc hg2 (.inr n2)
 refine Zj [(0, _, _), (2, _, _)] (Za rfl (Za rfl (Zd _))) ?_
 refine Zh (hK1 _ _ ?_)
 refine Zf [3, 3, 3, 0, 3, 3, 3, 3, 2] ?_
 refine Zc rfl (fun _ => Zi (Zb rfl)) ?_
 refine Zc rfl (fun _ => Xl (Zb rfl)) ?_
 refine Zc rfl (fun _ => Zm Yx (Zb rfl)) ?_
 refine Ya rfl (Zt Yy (Zb rfl) (fun _ => hB.at_ rfl)) ?_
 refine Zc rfl (fun _ => Zi (Zb rfl)) ?_
 refine Zc rfl (fun _ => Xq (Zb rfl) (Zb rfl) (fun _ => by omega)) ?_
 refine Zc rfl (fun _ => Xl (Zb rfl)) ?_
 refine Zc rfl (fun _ => Zm Yx (Zb rfl)) ?_
 refine Us rfl Yxa (Zb rfl) (Zb rfl) rfl rfl hB rfl rfl ?_
 intro w44 hg3 hz3 hB
 have hb := Vd hb hg3 (by have := hb.size; omega) (fun k hk => by injection hk with hk; omega)
 have ht' := Vx ht' hg3 (.inr n1)
 have hc := Vx hc hg3 (.inr n2)
 refine Zj [] (Zd _) ?_
 refine Zh (Xs rfl ?_)
 have e : ((p : Int) + size).toNat - (p : Int).toNat = size := by omega
 rw [e] at ht'
 have hl : (ts ++ [(⟨kind, (s.drop p).take size, p⟩ : Tok)]).length = ts.length + 1 := by simp
 refine ⟨rfl, ⟨ta', tc', ca, cc, ?_, hb0, ?_, hc, ?_, n2, ?_, ?_, by omega, h2, k4⟩, hb⟩ <;> rw [hl]
 ·exact hB
 ·rw [Qe]; exact ht'
 ·exact n1
 ·exact n3
 ·omega
end Go.Rk
