/- The engine's first part: one walk in the order of the text serves every order of a region that draws its order. Conditions: none. -/
import Derived.Orders
import Derived.Below
import Derived.LoopTactic
import Derived.CallsIn
import Derived.OrdersIn
import Derived.DefersIn
import Derived.RangeFuncRecord
import Derived.RangeFuncLeaves
namespace Go.Rk
open Go Go.RowKit

/-- Growth: what was there is as it was. -/
def G (w w' : World) : Prop := Below w.heap.size w w'
theorem G.refl (w : World) : G w w := Below.refl _ _
theorem G.trans {a b c : World} (h : G a b) (k : G b c) : G a c := Below.trans h (Below.mono k h.size)
theorem G.drew (w : World) : G w w.drew := ⟨rfl, rfl, rfl, Nat.le_refl _, fun _ _ => rfl⟩
theorem G.size {a b : World} (h : G a b) : a.heap.size ≤ b.heap.size := Below.size h
theorem G.block {a b : World} (h : G a b) {k : Nat} (hk : k < a.heap.size) : b.heap[k]? = a.heap[k]? := Below.block h k hk

/-- An activation of a function (none) or a round of a range over a function. -/
def WF (ρ : Option Nat) : Fence := { Fence.wide with round := ρ }
theorem WF_none : WF none = Fence.wide := rfl
/-- No panic. -/
@[reducible] def NoP : List PanicEntry → Act → World → Prop := fun _ _ _ => False

/-- An effect in its turn: it yields, or it writes, or it calls a function that returns or panics, or it asks for a round that returns. -/
def Eff (P : Program) (Z : List PanicEntry → Act → World → Prop) (gr : Bool) (o : Oper) (a : Act) (w : World) (next : Act → World → Prop) : Prop :=
  (∃ v w', (execOp a.eval o).run P w = .ok (.value v) w' ∧ (gr = true → G w w') ∧ next (a.put o.dst v) w') ∨
  (∃ w', (execOp a.eval o).run P w = .ok .skip w' ∧ (gr = true → G w w') ∧ next (a.put o.dst undef) w') ∨
  (∃ f args, (execOp a.eval o).run P w = .ok (.enter f args) w ∧ Calls P f args w fun e w' => (∃ v, e = .returned v ∧ (gr = true → G w w') ∧ next (a.put o.dst v) w') ∨ (∃ ch, e = .panicked ch ∧ Z ch a w')) ∨
  (∃ l f tmps asg body, (execOp a.eval o).run P w = .ok (.round l f tmps asg body) w ∧ RoundIn Fence.wide 0 P l f tmps asg body w fun e w' => ∃ v, e = .returned v ∧ (gr = true → G w w') ∧ next (a.put o.dst v) w')

theorem defer_run {P : Program} {ρ : Operand → Value} {o : Oper} {c : Call} (ho : o.op = .defer c) {w w' : World} {x : Next} (h : (execOp ρ o).run P w = .ok x w') : ∃ d, x = .defer d := by
  unfold execOp at h
  rw [ho] at h
  simp only [Sem.run_bind, Sem.run_pure] at h
  cases hr : (resolve ρ c o.type).run P w with
  | ok d w1 => rw [hr] at h; simp only [Result.andThen_ok] at h; injection h with h _; exact ⟨d, h.symm⟩
  | halt s w1 => rw [hr] at h; cases h
theorem semAt_of {P : Program} {ρ : Option Nat} {a : Act} {o : Oper} {w w' : World} {x : Next} (h : (execOp a.eval o).run P w = .ok x w') (hd : ∀ d, x ≠ .defer d) : Oper.semAt ρ a.eval o = execOp a.eval o :=
  Oper.semAt_eq _ _ _ fun c hc => by obtain ⟨d, e⟩ := defer_run hc h; exact hd d e
theorem wide_room (ρ : Option Nat) (n : Nat) : (WF ρ).room n := fun d h => by cases h
theorem callsIn_WF {ρ : Option Nat} {n : Nat} {P : Program} {f : FuncId} {args : Array Value} {w : World} {R : Ending → World → Prop} (h : Calls P f args w R) : CallsIn (WF ρ) n P f args w R := callsIn_wide.2 h
theorem Eff.wpIn {P : Program} {Z : List PanicEntry → Act → World → Prop} {gr : Bool} {o : Oper} {a : Act} {w : World} {next : Act → World → Prop} {Q : Exit → Act → World → Prop} {ρ : Option Nat}
    (h : Eff P Z gr o a w next) (hZ : ∀ ch w', Z ch a w' → Q (.panic ch) a w') : o.wpIn (WF ρ) 0 P a w next Q := by
  refine ⟨fun _ _ => trivial, ?_⟩
  rcases h with ⟨v, w', hr, _, hn⟩ | ⟨w', hr, _, hn⟩ | ⟨f, args, hr, hc⟩ | ⟨l, f, tmps, asg, body, hr, hc⟩
  · rw [semAt_of hr (fun d h => by cases h), hr]; exact hn
  · rw [semAt_of hr (fun d h => by cases h), hr]; exact hn
  · rw [semAt_of hr (fun d h => by cases h), hr]
    refine ⟨(fun h => by cases h), callsIn_WF (Calls.mono hc fun e w' h => ?_)⟩
    rcases h with ⟨v, rfl, _, hn⟩ | ⟨ch, rfl, hz⟩
    · exact hn
    · exact hZ ch w' hz
  · rw [semAt_of hr (fun d h => by cases h), hr]
    refine ⟨(fun h => by cases h), (RoundIn.mono hc fun e w' h => ?_ : RoundIn Fence.wide 0 P l f tmps asg body w _)⟩
    obtain ⟨v, rfl, _, hn⟩ := h
    exact hn

theorem Eff.some {P : Program} {Z : List PanicEntry → Act → World → Prop} {gr : Bool} {o : Oper} {a : Act} {w : World} {next : Act → World → Prop} (hZ : ∀ ch a w, ¬ Z ch a w) (h : Eff P Z gr o a w next) :
    ∃ v w', (gr = true → G w w') ∧ next (a.put o.dst v) w' := by
  rcases h with ⟨v, w', _, hg, hn⟩ | ⟨w', _, hg, hn⟩ | ⟨f, args, _, hc⟩ | ⟨l, f, tmps, asg, body, _, hc⟩
  · exact ⟨v, w', hg, hn⟩
  · exact ⟨undef, w', hg, hn⟩
  · obtain ⟨e, w', fr, h, _⟩ := hc []
    rcases h with ⟨v, _, hg, hn⟩ | ⟨ch, _, hz⟩
    · exact ⟨v, w', hg, hn⟩
    · exact absurd hz (hZ _ _ _)
  · obtain ⟨e, w', ⟨v, _, hg, hn⟩, _⟩ := hc.2 default [] (room_wide _)
    exact ⟨v, w', hg, hn⟩

/-- From one frame to another at which the operation runs alike. -/
theorem Eff.turn {P : Program} {Z Z' : List PanicEntry → Act → World → Prop} {gr : Bool} {o : Oper} {a b : Act} {w : World} {next next' : Act → World → Prop} (he : execOp b.eval o = execOp a.eval o)
    (hz : ∀ ch w', Z ch a w' → Z' ch b w')
    (hn : ∀ v w', (gr = true → G w w') → next (a.put o.dst v) w' → next' (b.put o.dst v) w') (h : Eff P Z gr o a w next) : Eff P Z' gr o b w next' := by
  rcases h with ⟨v, w', hr, hg, h1⟩ | ⟨w', hr, hg, h1⟩ | ⟨f, args, hr, hc⟩ | ⟨l, f, tmps, asg, body, hr, hc⟩
  · exact .inl ⟨v, w', by rw [he]; exact hr, hg, hn _ _ hg h1⟩
  · exact .inr (.inl ⟨w', by rw [he]; exact hr, hg, hn _ _ hg h1⟩)
  · refine .inr (.inr (.inl ⟨f, args, by rw [he]; exact hr, Calls.mono hc fun e w' h => ?_⟩))
    rcases h with ⟨v, e1, hg, h1⟩ | ⟨ch, e1, h1⟩
    · exact .inl ⟨v, e1, hg, hn _ _ hg h1⟩
    · exact .inr ⟨ch, e1, hz _ _ h1⟩
  · refine .inr (.inr (.inr ⟨l, f, tmps, asg, body, by rw [he]; exact hr, RoundIn.mono hc fun e w' h => ?_⟩))
    obtain ⟨v, e1, hg, h1⟩ := h
    exact ⟨v, e1, hg, hn _ _ hg h1⟩

section
variable (P : Program) (Z : List PanicEntry → Act → World → Prop) (ops : Array Oper) (cl : Nat → Nat) (lv : Nat → Bool) (W0 : World) (K : Act → World → Prop)

/-- From which worlds on a reading operation must yield its value. -/
def Gd (cl : Nat → Nat) (lv : Nat → Bool) (W0 : World) (i : Nat) (w w1 : World) : Prop := cl i = 3 ∨ G (if lv i = true then w else W0) w1

/-- The walk in the order of the text. cl: 0 reads, 1 an effect that only grows the world, 2 one that changes it, 3 looks at no memory. lv: true: every effect before it in the text is waited for. -/
def RS : List Nat → Act → World → Prop
  | [], a, w => K a w
  | i :: rest, a, w =>
    ∃ o, ops[i]? = some o ∧
    if cl i = 0 ∨ cl i = 3 then
      ∃ v, (Region.wanted o (yielded ops a.tmps) = true → ∀ w1, Gd cl lv W0 i w w1 → (execOp a.eval o).run P w1 = .ok (.value v) w1) ∧
        (Region.wanted o (yielded ops a.tmps) = false → v = undef) ∧ RS rest (a.put o.dst v) w
    else if Region.wanted o (yielded ops a.tmps) = true then Eff P Z (cl i == 1) o a w (fun a' w' => RS rest a' w')
    else RS rest (a.put o.dst undef) w
end

section
variable {P : Program} {Z : List PanicEntry → Act → World → Prop} {ops : Array Oper} {cl : Nat → Nat} {lv : Nat → Bool} {wt : Nat → Nat → Bool} {W0 : World} {K : Act → World → Prop}

/-- What a look at the region's text shows. -/
structure Okay (ops : Array Oper) (cl : Nat → Nat) (lv : Nat → Bool) (wt : Nat → Nat → Bool) : Prop where
  sel : ∀ (j : Nat) (o : Oper) cs b, ops[j]? = some o → o.op ≠ .select cs b
  way : ∀ (j : Nat) (o : Oper) (i : Nat), ops[j]? = some o → wt j i = true → ∃ e, e ∈ o.after ∧ Region.binds .any e = true ∧ (e.on = i ∨ wt e.on i = true)
  lt : ∀ (j : Nat) (o : Oper) (e : Edge), ops[j]? = some o → e ∈ o.after → Region.binds .any e = true → e.on < j
  pair : ∀ (i j : Nat) (oi oj : Oper), i < j → ops[i]? = some oi → ops[j]? = some oj → wt j i = false → oi.apart ops oj = true ∧ (cl i = 3 ∨ cl j = 3 ∨ (cl i = 0 ∨ cl j = 0) ∧ cl i ≠ 2 ∧ cl j ≠ 2)
  cls : ∀ i, cl i ≤ 3
  fresh : ∀ (i j : Nat), i < j → j < ops.size → cl j = 0 → lv j = true → cl i ≠ 0 → cl i ≠ 3 → wt j i = true
  stale : ∀ (i j : Nat), i < j → j < ops.size → cl j = 0 → lv j = false → cl i ≠ 2

theorem front_rd (hZ : ∀ ch a w, ¬ Z ch a w) (ok : Okay ops cl lv wt) {j : Nat} {oj : Oper} (hj : ops[j]? = some oj) (hcj : cl j = 0 ∨ cl j = 3) :
    ∀ (L : List Nat) (a : Act) (w : World), L.Pairwise (· < ·) → j ∈ L → (∀ i ∈ L, i < j → wt j i = false) → RS P Z ops cl lv W0 K L a w →
    ∃ v, (Region.wanted oj (yielded ops a.tmps) = true → ∀ w1, Gd cl lv W0 j w w1 → (execOp a.eval oj).run P w1 = .ok (.value v) w1) ∧
      (Region.wanted oj (yielded ops a.tmps) = false → v = undef) ∧ RS P Z ops cl lv W0 K (L.erase j) (a.put oj.dst v) w := by
  intro L
  induction L with
  | nil => intro a w _ hm; cases hm
  | cons i rest ih =>
    intro a w hs hm hr h
    obtain ⟨oi, hoi, hb⟩ := h
    by_cases hij : i = j
    · subst hij
      obtain rfl : oi = oj := Option.some.inj (hoi.symm.trans hj)
      rw [if_pos hcj] at hb
      obtain ⟨v, h1, h2, h3⟩ := hb
      exact ⟨v, h1, h2, by simpa using h3⟩
    · have hmr : j ∈ rest := by
        rcases List.mem_cons.1 hm with h | h
        · exact absurd h.symm hij
        · exact h
      have hlt : i < j := (List.pairwise_cons.1 hs).1 j hmr
      have hrr : ∀ k ∈ rest, k < j → wt j k = false := fun k hk => hr k (List.mem_cons_of_mem _ hk)
      have hw := hr i List.mem_cons_self hlt
      obtain ⟨hap, hcc⟩ := ok.pair i j oi oj hlt hoi hj hw
      obtain ⟨p1, p2, p3⟩ := Oper.apart_spec hap
      have he : (i :: rest).erase j = i :: rest.erase j := by
        rw [List.erase_cons_tail]; simpa using hij
      have evj : ∀ v, execOp (a.put oi.dst v).eval oj = execOp a.eval oj := fun v => execOp_put (ops := ops) oj (fun cs b => ok.sel j oj cs b hj) a oi.dst v p1
      have waj : ∀ v, Region.wanted oj (yielded ops (a.put oi.dst v).tmps) = Region.wanted oj (yielded ops a.tmps) := fun v => wanted_put oj a oi.dst v p1
      have evi : ∀ v, execOp (a.put oj.dst v).eval oi = execOp a.eval oi := fun v => execOp_put (ops := ops) oi (fun cs b => ok.sel i oi cs b hoi) a oj.dst v p3
      have wai : ∀ v, Region.wanted oi (yielded ops (a.put oj.dst v).tmps) = Region.wanted oi (yielded ops a.tmps) := fun v => wanted_put oi a oj.dst v p3
      have com : ∀ u v, (a.put oi.dst u).put oj.dst v = (a.put oj.dst v).put oi.dst u := fun u v => Act.put_comm a u v p2
      by_cases hci : cl i = 0 ∨ cl i = 3
      · rw [if_pos hci] at hb
        obtain ⟨u, h1, h2, h3⟩ := hb
        obtain ⟨v, k1, k2, k3⟩ := ih (a.put oi.dst u) w (List.pairwise_cons.1 hs).2 hmr hrr h3
        rw [waj] at k1 k2
        rw [evj] at k1
        refine ⟨v, k1, k2, ?_⟩
        rw [he]
        refine ⟨oi, hoi, ?_⟩
        rw [if_pos hci]
        refine ⟨u, ?_, ?_, ?_⟩
        · rw [wai, evi]; exact h1
        · rw [wai]; exact h2
        · rw [← com]; exact k3
      · rw [if_neg hci] at hb
        by_cases hwi : Region.wanted oi (yielded ops a.tmps) = true
        · rw [if_pos hwi] at hb
          have hgd : ∀ w' w1, Gd cl lv W0 j w' w1 ↔ (cl j = 3 ∨ G W0 w1) := by
            intro w' w1
            unfold Gd
            rcases hcj with hc | hc
            · have hlj : lv j = false := by
                cases hl : lv j with
                | false => rfl
                | true =>
                  have := ok.fresh i j hlt (Array.getElem?_eq_some_iff.1 hj).1 hc hl (fun h => hci (.inl h)) (fun h => hci (.inr h))
                  rw [this] at hw; cases hw
              rw [if_neg (by rw [hlj]; simp)]
            · simp [hc]
          have key : ∀ u w', RS P Z ops cl lv W0 K rest (a.put oi.dst u) w' → ∃ v, (Region.wanted oj (yielded ops a.tmps) = true → ∀ w1, (cl j = 3 ∨ G W0 w1) → (execOp a.eval oj).run P w1 = .ok (.value v) w1) ∧
              (Region.wanted oj (yielded ops a.tmps) = false → v = undef) ∧ RS P Z ops cl lv W0 K (rest.erase j) ((a.put oi.dst u).put oj.dst v) w' := by
            intro u w' h3
            obtain ⟨v, k1, k2, k3⟩ := ih (a.put oi.dst u) w' (List.pairwise_cons.1 hs).2 hmr hrr h3
            rw [waj] at k1 k2
            rw [evj] at k1
            exact ⟨v, fun hh w1 hg => k1 hh w1 ((hgd _ _).2 hg), k2, k3⟩
          obtain ⟨u0, w0', _, hn0⟩ := hb.some hZ
          obtain ⟨v, k1, k2, _⟩ := key u0 w0' hn0
          refine ⟨v, fun hh w1 hg => k1 hh w1 ((hgd _ _).1 hg), k2, ?_⟩
          rw [he]
          refine ⟨oi, hoi, ?_⟩
          rw [if_neg hci, wai, if_pos hwi]
          refine hb.turn (evi v) (fun ch w' h => absurd h (hZ _ _ _)) fun u w' _ h3 => ?_
          obtain ⟨v', q1, q2, q3⟩ := key u w' h3
          have hv : v' = v := by
            cases hwj : Region.wanted oj (yielded ops a.tmps) with
            | true =>
              have e1 := k1 hwj W0 (.inr (G.refl _))
              have e2 := q1 hwj W0 (.inr (G.refl _))
              rw [e1] at e2
              injection e2 with e2 _
              injection e2 with e2
              exact e2.symm
            | false => rw [k2 hwj, q2 hwj]
          subst hv
          rw [← com]; exact q3
        · rw [if_neg hwi] at hb
          obtain ⟨v, k1, k2, k3⟩ := ih (a.put oi.dst undef) w (List.pairwise_cons.1 hs).2 hmr hrr hb
          rw [waj] at k1 k2
          rw [evj] at k1
          refine ⟨v, k1, k2, ?_⟩
          rw [he]
          refine ⟨oi, hoi, ?_⟩
          rw [if_neg hci, wai, if_neg hwi, ← com]; exact k3

theorem front_eff (hZ : ∀ ch a w, ¬ Z ch a w) (ok : Okay ops cl lv wt) {j : Nat} {oj : Oper} (hj : ops[j]? = some oj) (hcj : ¬ (cl j = 0 ∨ cl j = 3)) :
    ∀ (L : List Nat) (a : Act) (w : World), L.Pairwise (· < ·) → j ∈ L → (∀ i ∈ L, i < j → wt j i = false) → RS P Z ops cl lv W0 K L a w →
    if Region.wanted oj (yielded ops a.tmps) = true then Eff P Z (cl j == 1) oj a w (fun a' w' => RS P Z ops cl lv W0 K (L.erase j) a' w')
    else RS P Z ops cl lv W0 K (L.erase j) (a.put oj.dst undef) w := by
  intro L
  induction L with
  | nil => intro a w _ hm; cases hm
  | cons i rest ih =>
    intro a w hs hm hr h
    obtain ⟨oi, hoi, hb⟩ := h
    by_cases hij : i = j
    · subst hij
      obtain rfl : oi = oj := Option.some.inj (hoi.symm.trans hj)
      rw [if_neg hcj] at hb
      simpa using hb
    · have hmr : j ∈ rest := by
        rcases List.mem_cons.1 hm with h | h
        · exact absurd h.symm hij
        · exact h
      have hlt : i < j := (List.pairwise_cons.1 hs).1 j hmr
      have hrr : ∀ k ∈ rest, k < j → wt j k = false := fun k hk => hr k (List.mem_cons_of_mem _ hk)
      have hw := hr i List.mem_cons_self hlt
      obtain ⟨hap, hcc⟩ := ok.pair i j oi oj hlt hoi hj hw
      have hci : cl i = 3 ∨ cl i = 0 ∧ cl j = 1 := by
        have hle := ok.cls j
        rcases hcc with h | h | ⟨h, _, h2⟩
        · exact .inl h
        · exact absurd (.inr h) hcj
        · rcases h with h | h
          · exact .inr ⟨h, by omega⟩
          · exact absurd (.inl h) hcj
      have hci' : cl i = 0 ∨ cl i = 3 := by
        rcases hci with h | h
        · exact .inr h
        · exact .inl h.1
      obtain ⟨p1, p2, p3⟩ := Oper.apart_spec hap
      have he : (i :: rest).erase j = i :: rest.erase j := by
        rw [List.erase_cons_tail]; simpa using hij
      have evj : ∀ v, execOp (a.put oi.dst v).eval oj = execOp a.eval oj := fun v => execOp_put (ops := ops) oj (fun cs b => ok.sel j oj cs b hj) a oi.dst v p1
      have waj : ∀ v, Region.wanted oj (yielded ops (a.put oi.dst v).tmps) = Region.wanted oj (yielded ops a.tmps) := fun v => wanted_put oj a oi.dst v p1
      have evi : ∀ v, execOp (a.put oj.dst v).eval oi = execOp a.eval oi := fun v => execOp_put (ops := ops) oi (fun cs b => ok.sel i oi cs b hoi) a oj.dst v p3
      have wai : ∀ v, Region.wanted oi (yielded ops (a.put oj.dst v).tmps) = Region.wanted oi (yielded ops a.tmps) := fun v => wanted_put oi a oj.dst v p3
      have com : ∀ u v, (a.put oi.dst u).put oj.dst v = (a.put oj.dst v).put oi.dst u := fun u v => Act.put_comm a u v p2
      rw [if_pos hci'] at hb
      obtain ⟨u, h1, h2, h3⟩ := hb
      have k := ih (a.put oi.dst u) w (List.pairwise_cons.1 hs).2 hmr hrr h3
      rw [waj] at k
      have back : ∀ x w', (cl j = 1 → G w w') → RS P Z ops cl lv W0 K (rest.erase j) ((a.put oi.dst u).put oj.dst x) w' → RS P Z ops cl lv W0 K ((i :: rest).erase j) (a.put oj.dst x) w' := by
        intro x w' hg hk
        rw [he]
        refine ⟨oi, hoi, ?_⟩
        rw [if_pos hci']
        refine ⟨u, ?_, ?_, ?_⟩
        · rw [wai, evi]
          intro hwi w1 hg1
          refine h1 hwi w1 ?_
          rcases hg1 with hg1 | hg1
          · exact .inl hg1
          · rcases hci with hc | ⟨_, hc⟩
            · exact .inl hc
            · refine .inr ?_
              by_cases hl : lv i = true
              · rw [if_pos hl] at hg1 ⊢; exact (hg hc).trans hg1
              · rw [if_neg hl] at hg1 ⊢; exact hg1
        · rw [wai]; exact h2
        · rw [← com]; exact hk
      by_cases hwj : Region.wanted oj (yielded ops a.tmps) = true
      · rw [if_pos hwj] at k ⊢
        refine k.turn (evj u).symm (fun ch w' h => absurd h (hZ _ _ _)) fun x w' hg hk => back x w' (fun h => hg (by simp [h])) hk
      · rw [if_neg hwj] at k ⊢
        exact back _ _ (fun _ => G.refl _) k

/-- The state of a run through the region: what has not come up yet. -/
structure Left (ops : Array Oper) (L : List Nat) (listed : Array Bool) : Prop where
  size : listed.size = ops.size
  sorted : L.Pairwise (· < ·)
  mem : ∀ i, i ∈ L ↔ i < ops.size ∧ listed.getD i true = false
  closed : ∀ j oj, ops[j]? = some oj → j ∉ L → ∀ e ∈ oj.after, Region.binds .any e = true → e.on ∉ L

theorem Left.waits (ok : Okay ops cl lv wt) {L : List Nat} {listed : Array Bool} (hL : Left ops L listed) :
    ∀ (n j : Nat) (oj : Oper), j ≤ n → ops[j]? = some oj → (∀ e ∈ oj.after, Region.binds .any e = true → e.on ∉ L) → ∀ i ∈ L, wt j i = false := by
  intro n
  induction n with
  | zero =>
    intro j oj hjn hj _ i _
    cases hw : wt j i with
    | false => rfl
    | true =>
      obtain ⟨e, he, hb, _⟩ := ok.way j oj i hj hw
      have := ok.lt j oj e hj he hb
      omega
  | succ n ih =>
    intro j oj hjn hj hall i hi
    cases hw : wt j i with
    | false => rfl
    | true =>
      obtain ⟨e, he, hb, hh⟩ := ok.way j oj i hj hw
      have hlt := ok.lt j oj e hj he hb
      have hnot := hall e he hb
      rcases hh with rfl | hh
      · exact absurd hi hnot
      · have hes : e.on < ops.size := by have := (Array.getElem?_eq_some_iff.1 hj).1; omega
        have hoe : ops[e.on]? = some ops[e.on] := Array.getElem?_eq_getElem hes
        have := ih e.on _ (by omega) hoe (hL.closed e.on _ hoe hnot) i hi
        rw [this] at hh; cases hh

theorem Left.step {L : List Nat} {listed : Array Bool} (hL : Left ops L listed) {j : Nat} {oj : Oper} (hj : ops[j]? = some oj) (hall : ∀ e ∈ oj.after, Region.binds .any e = true → e.on ∉ L) :
    Left ops (L.erase j) (listed.setIfInBounds j true) := by
  have hjs : j < listed.size := by rw [hL.size]; exact (Array.getElem?_eq_some_iff.1 hj).1
  have nd : L.Nodup := hL.sorted.imp (fun h => Nat.ne_of_lt h)
  refine ⟨by simp [hL.size], hL.sorted.sublist List.erase_sublist, fun i => ?_, fun k ok' hk hkn e he hb => ?_⟩
  · rw [nd.mem_erase_iff, hL.mem]
    by_cases hij : i = j
    · subst hij
      simp [hjs]
    · rw [getD_set_ne true (fun h => hij h.symm)]
      simp [hij]
  · by_cases hkj : k = j
    · subst hkj
      obtain rfl : ok' = oj := Option.some.inj (hk.symm.trans hj)
      exact fun h => hall e he hb (List.mem_of_mem_erase h)
    · have hkl : k ∉ L := fun h => hkn (nd.mem_erase_iff.2 ⟨hkj, h⟩)
      exact fun h => hL.closed k ok' hk hkl e he hb (List.mem_of_mem_erase h)

theorem any_of_RS {ρ : Option Nat} (hZ : ∀ ch a w, ¬ Z ch a w) (ok : Okay ops cl lv wt) {Q : Exit → Act → World → Prop} (hQ : ∀ a w, K a w → Q .normal a w) :
    ∀ (n : Nat) (L : List Nat) (listed : Array Bool) (a : Act) (w : World), L.length = n → Left ops L listed → (∀ i ∈ L, cl i = 0 → lv i = false → G W0 w) → RS P Z ops cl lv W0 K L a w →
      wpAnyIn (WF ρ) 0 P .any ops Q n listed a w := by
  intro n
  induction n with
  | zero =>
    intro L listed a w hn hL hG h
    obtain rfl : L = [] := List.eq_nil_of_length_eq_zero hn
    refine ⟨?_, hQ _ _ h⟩
    refine List.eq_nil_iff_forall_not_mem.2 fun j hj => ?_
    obtain ⟨h0, o, ho, _⟩ := mem_ready.1 hj
    have := (hL.mem j).2 ⟨(Array.getElem?_eq_some_iff.1 ho).1, h0⟩
    cases this
  | succ n ih =>
    intro L listed a w hn hL hG h
    have inL : ∀ j, j ∈ Region.ready .any ops listed → ∃ oj, ops[j]? = some oj ∧ j ∈ L ∧ ∀ e ∈ oj.after, Region.binds .any e = true → e.on ∉ L := by
      intro j hj
      obtain ⟨h0, oj, ho, hall⟩ := mem_ready.1 hj
      have hjs := (Array.getElem?_eq_some_iff.1 ho).1
      refine ⟨oj, ho, (hL.mem j).2 ⟨hjs, h0⟩, fun e he hb hm => ?_⟩
      have h1 := hall e he hb
      obtain ⟨h2, h3⟩ := (hL.mem e.on).1 hm
      have h4 : e.on < listed.size := by rw [hL.size]; exact h2
      simp [h4] at h1 h3
      rw [h1] at h3; cases h3
    refine ⟨fun h0 => ?_, fun j hj => ?_⟩
    · exfalso
      match L, hn, hL, h with
      | i :: rest, _, hL, h =>
        obtain ⟨oi, hoi, _⟩ := h
        have him := (hL.mem i).1 List.mem_cons_self
        have : i ∈ Region.ready .any ops listed := by
          refine mem_ready.2 ⟨him.2, oi, hoi, fun e he hb => ?_⟩
          have hlt := ok.lt i oi e hoi he hb
          have hno : e.on ∉ i :: rest := by
            intro hm
            rcases List.mem_cons.1 hm with hm | hm
            · omega
            · have := (List.pairwise_cons.1 hL.sorted).1 _ hm; omega
          have hes : e.on < listed.size := by rw [hL.size]; omega
          cases hl : listed.getD e.on true with
          | false => exact absurd ((hL.mem e.on).2 ⟨by rw [← hL.size]; exact hes, hl⟩) hno
          | true => simpa [hes] using hl
        rw [h0] at this; cases this
    · obtain ⟨oj, hoj, hjL, hall⟩ := inL j hj
      have hws : ∀ i ∈ L, wt j i = false := hL.waits ok j j oj (Nat.le_refl _) hoj hall
      have hL' := hL.step hoj hall
      have hlen : (L.erase j).length = n := by rw [List.length_erase_of_mem hjL]; omega
      have nd : L.Nodup := hL.sorted.imp (fun h => Nat.ne_of_lt h)
      unfold wpOpIn
      simp only [hoj]
      by_cases hc : cl j = 0 ∨ cl j = 3
      · obtain ⟨v, h1, h2, h3⟩ := front_rd hZ ok hoj hc L a w hL.sorted hjL (fun i hi _ => hws i hi) h
        have hG' : ∀ i ∈ L.erase j, cl i = 0 → lv i = false → G W0 w := fun i hi => hG i (List.mem_of_mem_erase hi)
        have hnext := ih (L.erase j) _ (a.put oj.dst v) w hlen hL' hG' h3
        by_cases hwj : Region.wanted oj (yielded ops a.tmps) = true
        · rw [if_pos hwj]
          have hr := h1 hwj w (by
            rcases hc with hc | hc
            · refine .inr ?_
              by_cases hl : lv j = true
              · rw [if_pos hl]; exact G.refl _
              · rw [if_neg hl]; exact hG j hjL hc (by simpa using hl)
            · exact .inl hc)
          refine ⟨fun _ _ => trivial, ?_⟩
          rw [semAt_of hr (fun d h => by cases h), hr]
          exact hnext
        · rw [if_neg hwj]
          have := h2 (by simpa using hwj)
          subst this
          exact ⟨fun _ _ => trivial, hnext⟩
      · have h1 := front_eff hZ ok hoj hc L a w hL.sorted hjL (fun i hi _ => hws i hi) h
        have hG' : ∀ w', (cl j = 1 → G w w') → ∀ i ∈ L.erase j, cl i = 0 → lv i = false → G W0 w' := by
          intro w' hg i hi hci hl
          obtain ⟨hij, hiL⟩ := nd.mem_erase_iff.1 hi
          have his := ((hL.mem i).1 hiL).1
          have hjs := ((hL.mem j).1 hjL).1
          have hc1 : cl j = 1 := by
            have hle := ok.cls j
            have hne : cl j ≠ 2 := by
              intro h2
              rcases Nat.lt_or_ge i j with hlt | hge
              · have := (ok.pair i j ops[i] oj hlt (Array.getElem?_eq_getElem his) hoj (hws i hiL)).2
                rcases this with h | h | h
                · omega
                · omega
                · exact h.2.2 h2
              · exact ok.stale j i (by omega) his hci hl h2
            omega
          exact (hG i hiL hci hl).trans (hg hc1)
        by_cases hwj : Region.wanted oj (yielded ops a.tmps) = true
        · rw [if_pos hwj] at h1 ⊢
          refine Eff.wpIn (Z := Z) (gr := cl j == 1) ?_ (fun ch w' h => absurd h (hZ _ _ _))
          refine h1.turn rfl (fun _ _ h => h) fun v w' hg hk => ?_
          exact ih (L.erase j) _ _ w' hlen hL' (hG' w' fun e => hg (by simp [e])) hk
        · rw [if_neg hwj] at h1 ⊢
          exact ⟨fun _ _ => trivial, ih (L.erase j) _ _ w hlen hL' (fun i hi => hG i (List.mem_of_mem_erase hi)) h1⟩

theorem left_start (ops : Array Oper) : Left ops (List.range ops.size) (Array.replicate ops.size false) := by
  refine ⟨by simp, List.pairwise_lt_range, fun i => ?_, fun j oj hj hn => ?_⟩
  · rw [List.mem_range]
    constructor
    · intro h; exact ⟨h, by simp [h]⟩
    · exact fun h => h.1
  · exact absurd (List.mem_range.2 (Array.getElem?_eq_some_iff.1 hj).1) hn

/-- A region that draws its order. -/
theorem wpIn_draw {ρ : Option Nat} (hZ : ∀ ch a w, ¬ Z ch a w) (ok : Okay ops cl lv wt) {id : Nat} {Q : Exit → Act → World → Prop} {a : Act} {w : World} (hm : P.follows .mixedOrders = true)
    (h : RS P Z ops cl lv w.drew (fun a w => Q .normal a w) (List.range ops.size) a w.drew) : (Code.region id ops true).wpIn (WF ρ) 0 P Q a w := by
  refine wpIn_region_any hm ?_
  have := any_of_RS (Q := Q) (ρ := ρ) hZ ok (fun _ _ h => h) (List.range ops.size).length (List.range ops.size) (Array.replicate ops.size false) a w.drew rfl (left_start ops) (fun _ _ _ _ => G.refl _) h
  simpa using this
theorem wp_draw (ok : Okay ops cl lv wt) {id : Nat} {Q : Exit → Act → World → Prop} {a : Act} {w : World} (hm : P.follows .mixedOrders = true)
    (h : RS P NoP ops cl lv w.drew (fun a w => Q .normal a w) (List.range ops.size) a w.drew) : (Code.region id ops true).wp P Q a w :=
  wpIn_wide.1 (wpIn_draw (ρ := none) (fun _ _ _ h => h) ok hm h)

/-- A region whose order is the text's. -/
theorem ops_of_RS {ρ : Option Nat} {Q : Exit → Act → World → Prop} (hZ : ∀ ch a w, Z ch a w → Q (.panic ch) a w) : ∀ (L : List Nat) (a : Act) (w : World), RS P Z ops cl (fun _ => true) W0 (fun a w => Q .normal a w) L a w → wpOpsIn (WF ρ) 0 P ops Q L a w
  | [], _, _, h => h
  | i :: rest, a, w, h => by
    obtain ⟨o, ho, hb⟩ := h
    unfold wpOpsIn
    simp only [ho]
    by_cases hw : Region.wanted o (yielded ops a.tmps) = true
    · rw [if_pos hw]
      by_cases hc : cl i = 0 ∨ cl i = 3
      · rw [if_pos hc] at hb
        obtain ⟨v, h1, _, h3⟩ := hb
        have hr := h1 hw w (.inr (by rw [if_pos rfl]; exact G.refl _))
        refine ⟨fun _ _ => trivial, ?_⟩
        rw [semAt_of hr (fun d h => by cases h), hr]
        exact ops_of_RS hZ rest _ _ h3
      · rw [if_neg hc, if_pos hw] at hb
        exact Eff.wpIn (hb.turn rfl (fun _ _ h => h) fun v w' _ hk => ops_of_RS hZ rest _ _ hk) (fun ch w' h => hZ _ _ _ h)
    · rw [if_neg hw]
      refine ⟨fun _ _ => trivial, ?_⟩
      by_cases hc : cl i = 0 ∨ cl i = 3
      · rw [if_pos hc] at hb
        obtain ⟨v, _, h2, h3⟩ := hb
        have := h2 (by simpa using hw)
        subst this
        exact ops_of_RS hZ rest _ _ h3
      · rw [if_neg hc, if_neg hw] at hb
        exact ops_of_RS hZ rest _ _ hb

theorem wpIn_text {ρ : Option Nat} {id : Nat} {Q : Exit → Act → World → Prop} {a : Act} {w : World} (hZ : ∀ ch a w, Z ch a w → Q (.panic ch) a w) (h : RS P Z ops cl (fun _ => true) W0 (fun a w => Q .normal a w) (List.range ops.size) a w) :
    (Code.region id ops false).wpIn (WF ρ) 0 P Q a w := wpIn_region (ops_of_RS hZ _ _ _ h)
theorem wp_text {id : Nat} {Q : Exit → Act → World → Prop} {a : Act} {w : World} (h : RS P NoP ops cl (fun _ => true) W0 (fun a w => Q .normal a w) (List.range ops.size) a w) :
    (Code.region id ops false).wp P Q a w := wpIn_wide.1 (wpIn_text (ρ := none) (fun _ _ _ h => h.elim) h)
end

/-! A look at the region's text, by reckoning. -/
def clOf (cl : List Nat) (i : Nat) : Nat := cl.getD i 0
def lvOf (lv : List Bool) (i : Nat) : Bool := lv.getD i true
def wtOf (ms : List Nat) (j i : Nat) : Bool := (ms.getD j 0).testBit i

def maskOf (ms : List Nat) : List Edge → Nat
  | [] => 0
  | e :: r => if Region.binds .any e = true then (2 ^ e.on) ||| (ms.getD e.on 0) ||| maskOf ms r else maskOf ms r

def noSel (o : Oper) : Bool := match o.op with | .select .. => false | _ => true

def lookAt (ops : Array Oper) (cl : List Nat) (lv : List Bool) (ms : List Nat) (E : List (Nat × Oper × Nat)) (k : Nat) (o : Oper) : Bool :=
  noSel o && Nat.ble (clOf cl k) 3 && o.after.toList.all (fun e => !Region.binds .any e || Nat.blt e.on k) && Nat.beq (ms.getD k 0) (maskOf ms o.after.toList) &&
  E.all (fun p => (ms.getD k 0).testBit p.1 || (p.2.1.apart ops o && (Nat.beq p.2.2 3 || Nat.beq (clOf cl k) 3 || (Nat.beq p.2.2 0 || Nat.beq (clOf cl k) 0) && !Nat.beq p.2.2 2 && !Nat.beq (clOf cl k) 2))) &&
  (!Nat.beq (clOf cl k) 0 || if lvOf lv k = true then E.all (fun p => Nat.beq p.2.2 0 || Nat.beq p.2.2 3 || (ms.getD k 0).testBit p.1) else E.all (fun p => !Nat.beq p.2.2 2))

def lookFrom (ops : Array Oper) (cl : List Nat) (lv : List Bool) (ms : List Nat) : List (Nat × Oper × Nat) → Nat → List Oper → Bool
  | _, _, [] => true
  | E, k, o :: rest => lookAt ops cl lv ms E k o && lookFrom ops cl lv ms ((k, o, clOf cl k) :: E) (k + 1) rest

def okB (l : List Oper) (cl : List Nat) (lv : List Bool) (ms : List Nat) : Bool :=
  lookFrom l.toArray cl lv ms [] 0 l && Nat.ble cl.length l.length && Nat.ble ms.length l.length

theorem mask_spec (ms : List Nat) (i : Nat) : ∀ (l : List Edge), (maskOf ms l).testBit i = true → ∃ e, e ∈ l ∧ Region.binds .any e = true ∧ (e.on = i ∨ wtOf ms e.on i = true)
  | [], h => by simp [maskOf] at h
  | e :: r, h => by
    unfold maskOf at h
    by_cases hb : Region.binds .any e = true
    · rw [if_pos hb, Nat.testBit_or, Nat.testBit_or, Bool.or_eq_true, Bool.or_eq_true] at h
      rcases h with (h | h) | h
      · refine ⟨e, List.mem_cons_self, hb, .inl ?_⟩
        rw [Nat.testBit_two_pow] at h
        simpa using h
      · exact ⟨e, List.mem_cons_self, hb, .inr h⟩
      · obtain ⟨e', h1, h2⟩ := mask_spec ms i r h
        exact ⟨e', List.mem_cons_of_mem _ h1, h2⟩
    · rw [if_neg hb] at h
      obtain ⟨e', h1, h2⟩ := mask_spec ms i r h
      exact ⟨e', List.mem_cons_of_mem _ h1, h2⟩

theorem lookFrom_spec (ops : Array Oper) (cl : List Nat) (lv : List Bool) (ms : List Nat) : ∀ (l : List Oper) (E : List (Nat × Oper × Nat)) (k : Nat),
    (∀ j, l[j]? = ops[k + j]?) → (∀ i, i < k → ∃ oi, ops[i]? = some oi ∧ (i, oi, clOf cl i) ∈ E) → lookFrom ops cl lv ms E k l = true →
    ∀ j oj, k ≤ j → ops[j]? = some oj → ∃ E', (∀ i, i < j → ∃ oi, ops[i]? = some oi ∧ (i, oi, clOf cl i) ∈ E') ∧ lookAt ops cl lv ms E' j oj = true
  | [], _, k, hl, _, _ => by
    intro j oj hkj hj
    have := hl (j - k)
    rw [show k + (j - k) = j by omega, hj] at this
    simp at this
  | o :: rest, E, k, hl, hE, h => by
    intro j oj hkj hj
    unfold lookFrom at h
    rw [Bool.and_eq_true] at h
    have h0 : ops[k]? = some o := by simpa using (hl 0).symm
    by_cases hjk : j = k
    · subst hjk
      obtain rfl : o = oj := Option.some.inj (h0.symm.trans hj)
      exact ⟨E, hE, h.1⟩
    · refine lookFrom_spec ops cl lv ms rest ((k, o, clOf cl k) :: E) (k + 1) (fun j => by have := hl (j + 1); simpa [Nat.add_assoc, Nat.add_comm 1 j] using this) ?_ h.2 j oj (by omega) hj
      intro i hi
      by_cases hik : i = k
      · subst hik
        exact ⟨o, h0, List.mem_cons_self⟩
      · obtain ⟨oi, h1, h2⟩ := hE i (by omega)
        exact ⟨oi, h1, List.mem_cons_of_mem _ h2⟩

theorem okay_of {l : List Oper} {cl : List Nat} {lv : List Bool} {ms : List Nat} (h : okB l cl lv ms = true) : Okay l.toArray (clOf cl) (lvOf lv) (wtOf ms) := by
  unfold okB at h
  rw [Bool.and_eq_true, Bool.and_eq_true] at h
  obtain ⟨⟨h, hcl⟩, hml⟩ := h
  have S := lookFrom_spec l.toArray cl lv ms l [] 0 (by simp) (fun i hi => absurd hi (by omega)) h
  have at_ : ∀ j oj, l.toArray[j]? = some oj → ∃ E', (∀ i, i < j → ∃ oi, l.toArray[i]? = some oi ∧ (i, oi, clOf cl i) ∈ E') ∧ lookAt l.toArray cl lv ms E' j oj = true := fun j oj hj => S j oj (Nat.zero_le _) hj
  have hsize : ∀ j, l.toArray.size ≤ j → clOf cl j = 0 ∧ ms.getD j 0 = 0 := by
    intro j hj
    have h1 := Nat.le_of_ble_eq_true hcl
    have h2 := Nat.le_of_ble_eq_true hml
    simp only [List.size_toArray] at hj
    constructor
    · unfold clOf; rw [List.getD_eq_getElem?_getD, List.getElem?_eq_none (by omega)]; rfl
    · rw [List.getD_eq_getElem?_getD, List.getElem?_eq_none (by omega)]; rfl
  refine ⟨?_, ?_, ?_, ?_, ?_, ?_, ?_⟩
  · intro j o cs b hj heq
    obtain ⟨E', _, hh⟩ := at_ j o hj
    simp [lookAt, noSel, heq] at hh
  · intro j o i hj hw
    obtain ⟨E', _, hh⟩ := at_ j o hj
    simp only [lookAt, Bool.and_eq_true] at hh
    have hm := Nat.eq_of_beq_eq_true hh.1.1.2
    unfold wtOf at hw
    rw [hm] at hw
    obtain ⟨e, h1, h2⟩ := mask_spec ms i _ hw
    exact ⟨e, Array.mem_toList_iff.1 h1, h2⟩
  · intro j o e hj he hb
    obtain ⟨E', _, hh⟩ := at_ j o hj
    simp only [lookAt, Bool.and_eq_true, List.all_eq_true, Array.mem_toList_iff, Bool.or_eq_true, Bool.not_eq_true'] at hh
    rcases hh.1.1.1.2 e he with h1 | h1
    · rw [hb] at h1; cases h1
    · exact Nat.le_of_ble_eq_true h1
  · intro i j oi oj hij hi hj hw
    obtain ⟨E', hE, hh⟩ := at_ j oj hj
    simp only [lookAt, Bool.and_eq_true, List.all_eq_true, Bool.or_eq_true] at hh
    obtain ⟨oi', h1, h2⟩ := hE i hij
    obtain rfl : oi' = oi := Option.some.inj (h1.symm.trans hi)
    rcases hh.1.2 _ h2 with h3 | h3
    · unfold wtOf at hw; rw [h3] at hw; cases hw
    · obtain ⟨a1, h4⟩ := h3
      refine ⟨a1, ?_⟩
      rcases h4 with (h4 | h4) | h4
      · exact .inl (Nat.eq_of_beq_eq_true h4)
      · exact .inr (.inl (Nat.eq_of_beq_eq_true h4))
      · obtain ⟨⟨a2, a3⟩, a4⟩ := h4
        refine .inr (.inr ⟨?_, ?_, ?_⟩)
        · rcases a2 with a2 | a2
          · exact .inl (Nat.eq_of_beq_eq_true a2)
          · exact .inr (Nat.eq_of_beq_eq_true a2)
        · intro h; dsimp only at a3; rw [h] at a3; simp at a3
        · intro h; rw [h] at a4; simp at a4
  · intro i
    rcases Nat.lt_or_ge i l.toArray.size with hi | hi
    · obtain ⟨E', _, hh⟩ := at_ i _ (Array.getElem?_eq_getElem hi)
      simp only [lookAt, Bool.and_eq_true] at hh
      exact Nat.le_of_ble_eq_true hh.1.1.1.1.2
    · rw [(hsize i hi).1]; omega
  · intro i j hij hj hcj hl hc hc3
    obtain ⟨E', hE, hh⟩ := at_ j _ (Array.getElem?_eq_getElem hj)
    obtain ⟨oi, h1, h2⟩ := hE i hij
    simp only [lookAt, Bool.and_eq_true] at hh
    have h3 := hh.2
    rw [hcj, hl] at h3
    simp only [Nat.beq_refl, Bool.not_true, Bool.false_or, if_true, List.all_eq_true, Bool.or_eq_true] at h3
    rcases h3 _ h2 with (h3 | h3) | h3
    · exact absurd (Nat.eq_of_beq_eq_true h3) hc
    · exact absurd (Nat.eq_of_beq_eq_true h3) hc3
    · exact h3
  · intro i j hij hj hcj hl hc
    obtain ⟨E', hE, hh⟩ := at_ j _ (Array.getElem?_eq_getElem hj)
    obtain ⟨oi, h1, h2⟩ := hE i hij
    simp only [lookAt, Bool.and_eq_true] at hh
    have h3 := hh.2
    rw [hcj, hl] at h3
    simp only [Nat.beq_refl, Bool.not_true, Bool.false_or] at h3
    rw [if_neg (by simp)] at h3
    have h4 := List.all_eq_true.1 h3 _ h2
    dsimp only at h4
    rw [hc] at h4
    simp at h4
end Go.Rk
