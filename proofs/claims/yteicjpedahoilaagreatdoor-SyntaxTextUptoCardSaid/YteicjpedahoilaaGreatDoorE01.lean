/- Merged texts of one road: Eng, Sym, Run, Mem, More. Conditions: each text's own. -/
import Derived.Orders
import Derived.Below
import Derived.LoopTactic
import Derived.CallsIn
import Derived.OrdersIn
import Derived.DefersIn
import Derived.RangeFuncRecord
import Derived.RangeFuncLeaves
import Derived.WalkKit
import Derived.WalkSpells
import Derived.WalkLawsBesides
import Derived.Maps.AppendAt
import Derived.Laws.StructEq
import Derived.Stop.IfaceNil
import Derived.Laws.Pointers
set_option linter.unusedSimpArgs false
set_option linter.unusedVariables false
namespace Go.Rk
open Go Go.RowKit
theorem Xec {α : Type} {x y : List α} : (x ++ y).length = x.length + y.length := List.length_append
theorem Xfc {α : Type} {a : α} {x : List α} : (a :: x).length = x.length + 1 := rfl
theorem Xgc {α : Type} : ([] : List α).length = 0 := rfl
theorem Xhc {α : Type} {x : List α} {y : List (List α)} : (x :: y).flatten = x ++ y.flatten := rfl
theorem Xic {α : Type} : ([] : List (List α)).flatten = [] := rfl
theorem Xjc {α : Type} (x : List α) : x ++ [] = x := List.append_nil x
theorem Xkc {α : Type} {a : α} {n : Nat} : (List.replicate n a).length = n := List.length_replicate

def G (w w' : World) : Prop := Below w.heap.size w w'
theorem G.refl (w : World) : G w w := Below.refl _ _
theorem G.trans {a b c : World} (h : G a b) (k : G b c) : G a c := Below.trans h (Below.mono k h.size)
theorem G.drew (w : World) : G w w.drew := ⟨rfl, rfl, rfl, Nat.le_refl _, fun _ _ => rfl⟩
theorem G.size {a b : World} (h : G a b) : a.heap.size ≤ b.heap.size := Below.size h
theorem G.block {a b : World} (h : G a b) {k : Nat} (hk : k < a.heap.size) : b.heap[k]? = a.heap[k]? := Below.block h k hk

def WF (ρ : Option Nat) : Fence := { Fence.wide with round := ρ }
@[reducible] def NoP : List PanicEntry → Act → World → Prop := fun _ _ _ => False

def Eff (P : Program) (Z : List PanicEntry → Act → World → Prop) (gr : Bool) (o : Oper) (a : Act) (w : World) (next : Act → World → Prop) : Prop :=
 (∃ v w', (execOp a.eval o).run P w = .ok (.value v) w' ∧ (gr = true → G w w') ∧ next (a.put o.dst v) w') ∨
 (∃ w', (execOp a.eval o).run P w = .ok .skip w' ∧ (gr = true → G w w') ∧ next (a.put o.dst undef) w') ∨
 (∃ f args, (execOp a.eval o).run P w = .ok (.enter f args) w ∧ Calls P f args w fun e w' => (∃ v, e = .returned v ∧ (gr = true → G w w') ∧ next (a.put o.dst v) w') ∨ (∃ ch, e = .panicked ch ∧ Z ch a w')) ∨
 (∃ l f tmps asg body, (execOp a.eval o).run P w = .ok (.round l f tmps asg body) w ∧ RoundIn Fence.wide 0 P l f tmps asg body w fun e w' => ∃ v, e = .returned v ∧ (gr = true → G w w') ∧ next (a.put o.dst v) w')

theorem defer_run {P : Program} {ρ : Operand → Value} {o : Oper} {c : Call} (ho : o.op = .defer c) {w w' : World} {x : Next} (h : (execOp ρ o).run P w = .ok x w') : ∃ d, x = .defer d := by
 unfold execOp at h
 rw [ho] at h
 simp only [Sem.run_bind, Sem.run_pure] at h
 cases hr : (resolve ρ c o.type).run P w with
 | ok d w1 => rw [hr] at h; simp only [Result.andThen_ok] at h; injection h with h _; exact ⟨d, h.symm⟩
 | halt s w1 => rw [hr] at h; cases h
theorem Xoa {P : Program} {ρ : Option Nat} {a : Act} {o : Oper} {w w' : World} {x : Next} (h : (execOp a.eval o).run P w = .ok x w') (hd : ∀ d, x ≠ .defer d) : Oper.semAt ρ a.eval o = execOp a.eval o :=
 Oper.semAt_eq _ _ _ fun c hc => by obtain ⟨d, e⟩ := defer_run hc h; exact hd d e
theorem callsIn_WF {ρ : Option Nat} {n : Nat} {P : Program} {f : FuncId} {args : Array Value} {w : World} {R : Ending → World → Prop} (h : Calls P f args w R) : CallsIn (WF ρ) n P f args w R := callsIn_wide.2 h
theorem Eff.wpIn {P : Program} {Z : List PanicEntry → Act → World → Prop} {gr : Bool} {o : Oper} {a : Act} {w : World} {next : Act → World → Prop} {Q : Exit → Act → World → Prop} {ρ : Option Nat}
  (h : Eff P Z gr o a w next) (hZ : ∀ ch w', Z ch a w' → Q (.panic ch) a w') : o.wpIn (WF ρ) 0 P a w next Q := by
 refine ⟨fun _ _ => trivial, ?_⟩
 rcases h with ⟨v, w', hr, _, hn⟩ | ⟨w', hr, _, hn⟩ | ⟨f, args, hr, hc⟩ | ⟨l, f, tmps, asg, body, hr, hc⟩
 ·rw [Xoa hr (fun d h => by cases h), hr]; exact hn
 ·rw [Xoa hr (fun d h => by cases h), hr]; exact hn
 ·rw [Xoa hr (fun d h => by cases h), hr]
  refine ⟨(fun h => by cases h), callsIn_WF (Calls.mono hc fun e w' h => ?_)⟩
  rcases h with ⟨v, rfl, _, hn⟩ | ⟨ch, rfl, hz⟩
  ·exact hn
  ·exact hZ ch w' hz
 ·rw [Xoa hr (fun d h => by cases h), hr]
  refine ⟨(fun h => by cases h), (RoundIn.mono hc fun e w' h => ?_ : RoundIn Fence.wide 0 P l f tmps asg body w _)⟩
  obtain ⟨v, rfl, _, hn⟩ := h
  exact hn

theorem Eff.some {P : Program} {Z : List PanicEntry → Act → World → Prop} {gr : Bool} {o : Oper} {a : Act} {w : World} {next : Act → World → Prop} (hZ : ∀ ch a w, ¬ Z ch a w) (h : Eff P Z gr o a w next) :
  ∃ v w', (gr = true → G w w') ∧ next (a.put o.dst v) w' := by
 rcases h with ⟨v, w', _, hg, hn⟩ | ⟨w', _, hg, hn⟩ | ⟨f, args, _, hc⟩ | ⟨l, f, tmps, asg, body, _, hc⟩
 ·exact ⟨v, w', hg, hn⟩
 ·exact ⟨undef, w', hg, hn⟩
 ·obtain ⟨e, w', fr, h, _⟩ := hc []
  rcases h with ⟨v, _, hg, hn⟩ | ⟨ch, _, hz⟩
  ·exact ⟨v, w', hg, hn⟩
  ·exact absurd hz (hZ _ _ _)
 ·obtain ⟨e, w', ⟨v, _, hg, hn⟩, _⟩ := hc.2 default [] (room_wide _)
  exact ⟨v, w', hg, hn⟩

theorem Eff.turn {P : Program} {Z Z' : List PanicEntry → Act → World → Prop} {gr : Bool} {o : Oper} {a b : Act} {w : World} {next next' : Act → World → Prop} (he : execOp b.eval o = execOp a.eval o)
  (hz : ∀ ch w', Z ch a w' → Z' ch b w')
  (hn : ∀ v w', (gr = true → G w w') → next (a.put o.dst v) w' → next' (b.put o.dst v) w') (h : Eff P Z gr o a w next) : Eff P Z' gr o b w next' := by
 rcases h with ⟨v, w', hr, hg, h1⟩ | ⟨w', hr, hg, h1⟩ | ⟨f, args, hr, hc⟩ | ⟨l, f, tmps, asg, body, hr, hc⟩
 ·exact .inl ⟨v, w', by rw [he]; exact hr, hg, hn _ _ hg h1⟩
 ·exact .inr (.inl ⟨w', by rw [he]; exact hr, hg, hn _ _ hg h1⟩)
 ·refine .inr (.inr (.inl ⟨f, args, by rw [he]; exact hr, Calls.mono hc fun e w' h => ?_⟩))
  rcases h with ⟨v, e1, hg, h1⟩ | ⟨ch, e1, h1⟩
  ·exact .inl ⟨v, e1, hg, hn _ _ hg h1⟩
  ·exact .inr ⟨ch, e1, hz _ _ h1⟩
 ·refine .inr (.inr (.inr ⟨l, f, tmps, asg, body, by rw [he]; exact hr, RoundIn.mono hc fun e w' h => ?_⟩))
  obtain ⟨v, e1, hg, h1⟩ := h
  exact ⟨v, e1, hg, hn _ _ hg h1⟩

section
variable (P : Program) (Z : List PanicEntry → Act → World → Prop) (ops : Array Oper) (cl : Nat → Nat) (lv : Nat → Bool) (W0 : World) (K : Act → World → Prop)

def Gd (cl : Nat → Nat) (lv : Nat → Bool) (W0 : World) (i : Nat) (w w1 : World) : Prop := cl i = 3 ∨ G (if lv i = true then w else W0) w1

def RS : List Nat → Act → World → Prop
 | [], a, w => K a w
 | i :: rest, a, w =>
  ∃ o, ops[i]? = some o ∧
  if cl i = 0 ∨ cl i = 3 then
   ∃ v, (Region.wanted o (yielded ops a.tmps) = true → ∀ w1, Gd cl lv W0 i w w1 → (execOp a.eval o).run P w1 = .ok (.value v) w1) ∧
    (Region.wanted o (yielded ops a.tmps) = false → v = undef) ∧ RS rest (a.put o.dst v) w
  else if Region.wanted o (yielded ops a.tmps) = true then Eff P Z (cl i == 1) o a w (fun a' w' => RS rest a' w')
  else RS rest (a.put o.dst undef) w
end

section
variable {P : Program} {Z : List PanicEntry → Act → World → Prop} {ops : Array Oper} {cl : Nat → Nat} {lv : Nat → Bool} {wt : Nat → Nat → Bool} {W0 : World} {K : Act → World → Prop}

structure Okay (ops : Array Oper) (cl : Nat → Nat) (lv : Nat → Bool) (wt : Nat → Nat → Bool) : Prop where
 sel : ∀ (j : Nat) (o : Oper) cs b, ops[j]? = some o → o.op ≠ .select cs b
 way : ∀ (j : Nat) (o : Oper) (i : Nat), ops[j]? = some o → wt j i = true → ∃ e, e ∈ o.after ∧ Region.binds .any e = true ∧ (e.on = i ∨ wt e.on i = true)
 lt : ∀ (j : Nat) (o : Oper) (e : Edge), ops[j]? = some o → e ∈ o.after → Region.binds .any e = true → e.on < j
 pair : ∀ (i j : Nat) (oi oj : Oper), i < j → ops[i]? = some oi → ops[j]? = some oj → wt j i = false → oi.apart ops oj = true ∧ (cl i = 3 ∨ cl j = 3 ∨ (cl i = 0 ∨ cl j = 0) ∧ cl i ≠ 2 ∧ cl j ≠ 2)
 cls : ∀ i, cl i ≤ 3
 fresh : ∀ (i j : Nat), i < j → j < ops.size → cl j = 0 → lv j = true → cl i ≠ 0 → cl i ≠ 3 → wt j i = true
 stale : ∀ (i j : Nat), i < j → j < ops.size → cl j = 0 → lv j = false → cl i ≠ 2

theorem front_rd (hZ : ∀ ch a w, ¬ Z ch a w) (ok : Okay ops cl lv wt) {j : Nat} {oj : Oper} (hj : ops[j]? = some oj) (hcj : cl j = 0 ∨ cl j = 3) :
  ∀ (L : List Nat) (a : Act) (w : World), L.Pairwise (· < ·) → j ∈ L → (∀ i ∈ L, i < j → wt j i = false) → RS P Z ops cl lv W0 K L a w →
  ∃ v, (Region.wanted oj (yielded ops a.tmps) = true → ∀ w1, Gd cl lv W0 j w w1 → (execOp a.eval oj).run P w1 = .ok (.value v) w1) ∧
   (Region.wanted oj (yielded ops a.tmps) = false → v = undef) ∧ RS P Z ops cl lv W0 K (L.erase j) (a.put oj.dst v) w := by
 intro L
 induction L with
 | nil => intro a w _ hm; cases hm
 | cons i rest ih =>
  intro a w hs hm hr h
  obtain ⟨oi, hoi, hb⟩ := h
  by_cases hij : i = j
  ·subst hij
   obtain rfl : oi = oj := Option.some.inj (hoi.symm.trans hj)
   rw [if_pos hcj] at hb
   obtain ⟨v, h1, h2, h3⟩ := hb
   exact ⟨v, h1, h2, by simpa using h3⟩
  ·have hmr : j ∈ rest := by
    rcases List.mem_cons.1 hm with h | h
    ·exact absurd h.symm hij
    ·exact h
   have hlt : i < j := (List.pairwise_cons.1 hs).1 j hmr
   have hrr : ∀ k ∈ rest, k < j → wt j k = false := fun k hk => hr k (List.mem_cons_of_mem _ hk)
   have hw := hr i List.mem_cons_self hlt
   obtain ⟨hap, hcc⟩ := ok.pair i j oi oj hlt hoi hj hw
   obtain ⟨p1, p2, p3⟩ := Oper.apart_spec hap
   have he : (i :: rest).erase j = i :: rest.erase j := by
    rw [List.erase_cons_tail]; simpa using hij
   have evj : ∀ v, execOp (a.put oi.dst v).eval oj = execOp a.eval oj := fun v => execOp_put (ops := ops) oj (fun cs b => ok.sel j oj cs b hj) a oi.dst v p1
   have waj : ∀ v, Region.wanted oj (yielded ops (a.put oi.dst v).tmps) = Region.wanted oj (yielded ops a.tmps) := fun v => wanted_put oj a oi.dst v p1
   have evi : ∀ v, execOp (a.put oj.dst v).eval oi = execOp a.eval oi := fun v => execOp_put (ops := ops) oi (fun cs b => ok.sel i oi cs b hoi) a oj.dst v p3
   have wai : ∀ v, Region.wanted oi (yielded ops (a.put oj.dst v).tmps) = Region.wanted oi (yielded ops a.tmps) := fun v => wanted_put oi a oj.dst v p3
   have com : ∀ u v, (a.put oi.dst u).put oj.dst v = (a.put oj.dst v).put oi.dst u := fun u v => Act.put_comm a u v p2
   by_cases hci : cl i = 0 ∨ cl i = 3
   ·rw [if_pos hci] at hb
    obtain ⟨u, h1, h2, h3⟩ := hb
    obtain ⟨v, k1, k2, k3⟩ := ih (a.put oi.dst u) w (List.pairwise_cons.1 hs).2 hmr hrr h3
    rw [waj] at k1 k2
    rw [evj] at k1
    refine ⟨v, k1, k2, ?_⟩
    rw [he]
    refine ⟨oi, hoi, ?_⟩
    rw [if_pos hci]
    refine ⟨u, ?_, ?_, ?_⟩
    ·rw [wai, evi]; exact h1
    ·rw [wai]; exact h2
    ·rw [← com]; exact k3
   ·rw [if_neg hci] at hb
    by_cases hwi : Region.wanted oi (yielded ops a.tmps) = true
    ·rw [if_pos hwi] at hb
     have hgd : ∀ w' w1, Gd cl lv W0 j w' w1 ↔ (cl j = 3 ∨ G W0 w1) := by
      intro w' w1
      unfold Gd
      rcases hcj with hc | hc
      ·have hlj : lv j = false := by
        cases hl : lv j with
        | false => rfl
        | true =>
         have := ok.fresh i j hlt (Array.getElem?_eq_some_iff.1 hj).1 hc hl (fun h => hci (.inl h)) (fun h => hci (.inr h))
         rw [this] at hw; cases hw
       rw [if_neg (by rw [hlj]; simp)]
      ·simp [hc]
     have key : ∀ u w', RS P Z ops cl lv W0 K rest (a.put oi.dst u) w' → ∃ v, (Region.wanted oj (yielded ops a.tmps) = true → ∀ w1, (cl j = 3 ∨ G W0 w1) → (execOp a.eval oj).run P w1 = .ok (.value v) w1) ∧
       (Region.wanted oj (yielded ops a.tmps) = false → v = undef) ∧ RS P Z ops cl lv W0 K (rest.erase j) ((a.put oi.dst u).put oj.dst v) w' := by
      intro u w' h3
      obtain ⟨v, k1, k2, k3⟩ := ih (a.put oi.dst u) w' (List.pairwise_cons.1 hs).2 hmr hrr h3
      rw [waj] at k1 k2
      rw [evj] at k1
      exact ⟨v, fun hh w1 hg => k1 hh w1 ((hgd _ _).2 hg), k2, k3⟩
     obtain ⟨u0, w0', _, hn0⟩ := hb.some hZ
     obtain ⟨v, k1, k2, _⟩ := key u0 w0' hn0
     refine ⟨v, fun hh w1 hg => k1 hh w1 ((hgd _ _).1 hg), k2, ?_⟩
     rw [he]
     refine ⟨oi, hoi, ?_⟩
     rw [if_neg hci, wai, if_pos hwi]
     refine hb.turn (evi v) (fun ch w' h => absurd h (hZ _ _ _)) fun u w' _ h3 => ?_
     obtain ⟨v', q1, q2, q3⟩ := key u w' h3
     have hv : v' = v := by
      cases hwj : Region.wanted oj (yielded ops a.tmps) with
      | true =>
       have e1 := k1 hwj W0 (.inr (G.refl _))
       have e2 := q1 hwj W0 (.inr (G.refl _))
       rw [e1] at e2
       injection e2 with e2 _
       injection e2 with e2
       exact e2.symm
      | false => rw [k2 hwj, q2 hwj]
     subst hv
     rw [← com]; exact q3
    ·rw [if_neg hwi] at hb
     obtain ⟨v, k1, k2, k3⟩ := ih (a.put oi.dst undef) w (List.pairwise_cons.1 hs).2 hmr hrr hb
     rw [waj] at k1 k2
     rw [evj] at k1
     refine ⟨v, k1, k2, ?_⟩
     rw [he]
     refine ⟨oi, hoi, ?_⟩
     rw [if_neg hci, wai, if_neg hwi, ← com]; exact k3

theorem front_eff (hZ : ∀ ch a w, ¬ Z ch a w) (ok : Okay ops cl lv wt) {j : Nat} {oj : Oper} (hj : ops[j]? = some oj) (hcj : ¬ (cl j = 0 ∨ cl j = 3)) :
  ∀ (L : List Nat) (a : Act) (w : World), L.Pairwise (· < ·) → j ∈ L → (∀ i ∈ L, i < j → wt j i = false) → RS P Z ops cl lv W0 K L a w →
  if Region.wanted oj (yielded ops a.tmps) = true then Eff P Z (cl j == 1) oj a w (fun a' w' => RS P Z ops cl lv W0 K (L.erase j) a' w')
  else RS P Z ops cl lv W0 K (L.erase j) (a.put oj.dst undef) w := by
 intro L
 induction L with
 | nil => intro a w _ hm; cases hm
 | cons i rest ih =>
  intro a w hs hm hr h
  obtain ⟨oi, hoi, hb⟩ := h
  by_cases hij : i = j
  ·subst hij
   obtain rfl : oi = oj := Option.some.inj (hoi.symm.trans hj)
   rw [if_neg hcj] at hb
   simpa using hb
  ·have hmr : j ∈ rest := by
    rcases List.mem_cons.1 hm with h | h
    ·exact absurd h.symm hij
    ·exact h
   have hlt : i < j := (List.pairwise_cons.1 hs).1 j hmr
   have hrr : ∀ k ∈ rest, k < j → wt j k = false := fun k hk => hr k (List.mem_cons_of_mem _ hk)
   have hw := hr i List.mem_cons_self hlt
   obtain ⟨hap, hcc⟩ := ok.pair i j oi oj hlt hoi hj hw
   have hci : cl i = 3 ∨ cl i = 0 ∧ cl j = 1 := by
    have hle := ok.cls j
    rcases hcc with h | h | ⟨h, _, h2⟩
    ·exact .inl h
    ·exact absurd (.inr h) hcj
    ·rcases h with h | h
     ·exact .inr ⟨h, by omega⟩
     ·exact absurd (.inl h) hcj
   have hci' : cl i = 0 ∨ cl i = 3 := by
    rcases hci with h | h
    ·exact .inr h
    ·exact .inl h.1
   obtain ⟨p1, p2, p3⟩ := Oper.apart_spec hap
   have he : (i :: rest).erase j = i :: rest.erase j := by
    rw [List.erase_cons_tail]; simpa using hij
   have evj : ∀ v, execOp (a.put oi.dst v).eval oj = execOp a.eval oj := fun v => execOp_put (ops := ops) oj (fun cs b => ok.sel j oj cs b hj) a oi.dst v p1
   have waj : ∀ v, Region.wanted oj (yielded ops (a.put oi.dst v).tmps) = Region.wanted oj (yielded ops a.tmps) := fun v => wanted_put oj a oi.dst v p1
   have evi : ∀ v, execOp (a.put oj.dst v).eval oi = execOp a.eval oi := fun v => execOp_put (ops := ops) oi (fun cs b => ok.sel i oi cs b hoi) a oj.dst v p3
   have wai : ∀ v, Region.wanted oi (yielded ops (a.put oj.dst v).tmps) = Region.wanted oi (yielded ops a.tmps) := fun v => wanted_put oi a oj.dst v p3
   have com : ∀ u v, (a.put oi.dst u).put oj.dst v = (a.put oj.dst v).put oi.dst u := fun u v => Act.put_comm a u v p2
   rw [if_pos hci'] at hb
   obtain ⟨u, h1, h2, h3⟩ := hb
   have k := ih (a.put oi.dst u) w (List.pairwise_cons.1 hs).2 hmr hrr h3
   rw [waj] at k
   have back : ∀ x w', (cl j = 1 → G w w') → RS P Z ops cl lv W0 K (rest.erase j) ((a.put oi.dst u).put oj.dst x) w' → RS P Z ops cl lv W0 K ((i :: rest).erase j) (a.put oj.dst x) w' := by
    intro x w' hg hk
    rw [he]
    refine ⟨oi, hoi, ?_⟩
    rw [if_pos hci']
    refine ⟨u, ?_, ?_, ?_⟩
    ·rw [wai, evi]
     intro hwi w1 hg1
     refine h1 hwi w1 ?_
     rcases hg1 with hg1 | hg1
     ·exact .inl hg1
     ·rcases hci with hc | ⟨_, hc⟩
      ·exact .inl hc
      ·refine .inr ?_
       by_cases hl : lv i = true
       ·rw [if_pos hl] at hg1 ⊢; exact (hg hc).trans hg1
       ·rw [if_neg hl] at hg1 ⊢; exact hg1
    ·rw [wai]; exact h2
    ·rw [← com]; exact hk
   by_cases hwj : Region.wanted oj (yielded ops a.tmps) = true
   ·rw [if_pos hwj] at k ⊢
    refine k.turn (evj u).symm (fun ch w' h => absurd h (hZ _ _ _)) fun x w' hg hk => back x w' (fun h => hg (by simp [h])) hk
   ·rw [if_neg hwj] at k ⊢
    exact back _ _ (fun _ => G.refl _) k

structure Left (ops : Array Oper) (L : List Nat) (listed : Array Bool) : Prop where
 size : listed.size = ops.size
 sorted : L.Pairwise (· < ·)
 mem : ∀ i, i ∈ L ↔ i < ops.size ∧ listed.getD i true = false
 closed : ∀ j oj, ops[j]? = some oj → j ∉ L → ∀ e ∈ oj.after, Region.binds .any e = true → e.on ∉ L

theorem Left.waits (ok : Okay ops cl lv wt) {L : List Nat} {listed : Array Bool} (hL : Left ops L listed) :
  ∀ (n j : Nat) (oj : Oper), j ≤ n → ops[j]? = some oj → (∀ e ∈ oj.after, Region.binds .any e = true → e.on ∉ L) → ∀ i ∈ L, wt j i = false := by
 intro n
 induction n with
 | zero =>
  intro j oj hjn hj _ i _
  cases hw : wt j i with
  | false => rfl
  | true =>
   obtain ⟨e, he, hb, _⟩ := ok.way j oj i hj hw
   have := ok.lt j oj e hj he hb
   omega
 | succ n ih =>
  intro j oj hjn hj hall i hi
  cases hw : wt j i with
  | false => rfl
  | true =>
   obtain ⟨e, he, hb, hh⟩ := ok.way j oj i hj hw
   have hlt := ok.lt j oj e hj he hb
   have hnot := hall e he hb
   rcases hh with rfl | hh
   ·exact absurd hi hnot
   ·have hes : e.on < ops.size := by have := (Array.getElem?_eq_some_iff.1 hj).1; omega
    have hoe : ops[e.on]? = some ops[e.on] := Array.getElem?_eq_getElem hes
    have := ih e.on _ (by omega) hoe (hL.closed e.on _ hoe hnot) i hi
    rw [this] at hh; cases hh

theorem Left.step {L : List Nat} {listed : Array Bool} (hL : Left ops L listed) {j : Nat} {oj : Oper} (hj : ops[j]? = some oj) (hall : ∀ e ∈ oj.after, Region.binds .any e = true → e.on ∉ L) :
  Left ops (L.erase j) (listed.setIfInBounds j true) := by
 have hjs : j < listed.size := by rw [hL.size]; exact (Array.getElem?_eq_some_iff.1 hj).1
 have nd : L.Nodup := hL.sorted.imp (fun h => Nat.ne_of_lt h)
 refine ⟨by simp [hL.size], hL.sorted.sublist List.erase_sublist, fun i => ?_, fun k ok' hk hkn e he hb => ?_⟩
 ·rw [nd.mem_erase_iff, hL.mem]
  by_cases hij : i = j
  ·subst hij
   simp [hjs]
  ·rw [getD_set_ne true (fun h => hij h.symm)]
   simp [hij]
 ·by_cases hkj : k = j
  ·subst hkj
   obtain rfl : ok' = oj := Option.some.inj (hk.symm.trans hj)
   exact fun h => hall e he hb (List.mem_of_mem_erase h)
  ·have hkl : k ∉ L := fun h => hkn (nd.mem_erase_iff.2 ⟨hkj, h⟩)
   exact fun h => hL.closed k ok' hk hkl e he hb (List.mem_of_mem_erase h)

theorem any_of_RS {ρ : Option Nat} (hZ : ∀ ch a w, ¬ Z ch a w) (ok : Okay ops cl lv wt) {Q : Exit → Act → World → Prop} (hQ : ∀ a w, K a w → Q .normal a w) :
  ∀ (n : Nat) (L : List Nat) (listed : Array Bool) (a : Act) (w : World), L.length = n → Left ops L listed → (∀ i ∈ L, cl i = 0 → lv i = false → G W0 w) → RS P Z ops cl lv W0 K L a w →
   wpAnyIn (WF ρ) 0 P .any ops Q n listed a w := by
 intro n
 induction n with
 | zero =>
  intro L listed a w hn hL hG h
  obtain rfl : L = [] := List.eq_nil_of_length_eq_zero hn
  refine ⟨?_, hQ _ _ h⟩
  refine List.eq_nil_iff_forall_not_mem.2 fun j hj => ?_
  obtain ⟨h0, o, ho, _⟩ := mem_ready.1 hj
  have := (hL.mem j).2 ⟨(Array.getElem?_eq_some_iff.1 ho).1, h0⟩
  cases this
 | succ n ih =>
  intro L listed a w hn hL hG h
  have inL : ∀ j, j ∈ Region.ready .any ops listed → ∃ oj, ops[j]? = some oj ∧ j ∈ L ∧ ∀ e ∈ oj.after, Region.binds .any e = true → e.on ∉ L := by
   intro j hj
   obtain ⟨h0, oj, ho, hall⟩ := mem_ready.1 hj
   have hjs := (Array.getElem?_eq_some_iff.1 ho).1
   refine ⟨oj, ho, (hL.mem j).2 ⟨hjs, h0⟩, fun e he hb hm => ?_⟩
   have h1 := hall e he hb
   obtain ⟨h2, h3⟩ := (hL.mem e.on).1 hm
   have h4 : e.on < listed.size := by rw [hL.size]; exact h2
   simp [h4] at h1 h3
   rw [h1] at h3; cases h3
  refine ⟨fun h0 => ?_, fun j hj => ?_⟩
  ·exfalso
   match L, hn, hL, h with
   | i :: rest, _, hL, h =>
    obtain ⟨oi, hoi, _⟩ := h
    have him := (hL.mem i).1 List.mem_cons_self
    have : i ∈ Region.ready .any ops listed := by
     refine mem_ready.2 ⟨him.2, oi, hoi, fun e he hb => ?_⟩
     have hlt := ok.lt i oi e hoi he hb
     have hno : e.on ∉ i :: rest := by
      intro hm
      rcases List.mem_cons.1 hm with hm | hm
      ·omega
      ·have := (List.pairwise_cons.1 hL.sorted).1 _ hm; omega
     have hes : e.on < listed.size := by rw [hL.size]; omega
     cases hl : listed.getD e.on true with
     | false => exact absurd ((hL.mem e.on).2 ⟨by rw [← hL.size]; exact hes, hl⟩) hno
     | true => simpa [hes] using hl
    rw [h0] at this; cases this
  ·obtain ⟨oj, hoj, hjL, hall⟩ := inL j hj
   have hws : ∀ i ∈ L, wt j i = false := hL.waits ok j j oj (Nat.le_refl _) hoj hall
   have hL' := hL.step hoj hall
   have hlen : (L.erase j).length = n := by rw [List.length_erase_of_mem hjL]; omega
   have nd : L.Nodup := hL.sorted.imp (fun h => Nat.ne_of_lt h)
   unfold wpOpIn
   simp only [hoj]
   by_cases hc : cl j = 0 ∨ cl j = 3
   ·obtain ⟨v, h1, h2, h3⟩ := front_rd hZ ok hoj hc L a w hL.sorted hjL (fun i hi _ => hws i hi) h
    have hG' : ∀ i ∈ L.erase j, cl i = 0 → lv i = false → G W0 w := fun i hi => hG i (List.mem_of_mem_erase hi)
    have hnext := ih (L.erase j) _ (a.put oj.dst v) w hlen hL' hG' h3
    by_cases hwj : Region.wanted oj (yielded ops a.tmps) = true
    ·rw [if_pos hwj]
     have hr := h1 hwj w (by
      rcases hc with hc | hc
      ·refine .inr ?_
       by_cases hl : lv j = true
       ·rw [if_pos hl]; exact G.refl _
       ·rw [if_neg hl]; exact hG j hjL hc (by simpa using hl)
      ·exact .inl hc)
     refine ⟨fun _ _ => trivial, ?_⟩
     rw [Xoa hr (fun d h => by cases h), hr]
     exact hnext
    ·rw [if_neg hwj]
     have := h2 (by simpa using hwj)
     subst this
     exact ⟨fun _ _ => trivial, hnext⟩
   ·have h1 := front_eff hZ ok hoj hc L a w hL.sorted hjL (fun i hi _ => hws i hi) h
    have hG' : ∀ w', (cl j = 1 → G w w') → ∀ i ∈ L.erase j, cl i = 0 → lv i = false → G W0 w' := by
     intro w' hg i hi hci hl
     obtain ⟨hij, hiL⟩ := nd.mem_erase_iff.1 hi
     have his := ((hL.mem i).1 hiL).1
     have hjs := ((hL.mem j).1 hjL).1
     have hc1 : cl j = 1 := by
      have hle := ok.cls j
      have hne : cl j ≠ 2 := by
       intro h2
       rcases Nat.lt_or_ge i j with hlt | hge
       ·have := (ok.pair i j ops[i] oj hlt (Array.getElem?_eq_getElem his) hoj (hws i hiL)).2
        rcases this with h | h | h
        ·omega
        ·omega
        ·exact h.2.2 h2
       ·exact ok.stale j i (by omega) his hci hl h2
      omega
     exact (hG i hiL hci hl).trans (hg hc1)
    by_cases hwj : Region.wanted oj (yielded ops a.tmps) = true
    ·rw [if_pos hwj] at h1 ⊢
     refine Eff.wpIn (Z := Z) (gr := cl j == 1) ?_ (fun ch w' h => absurd h (hZ _ _ _))
     refine h1.turn rfl (fun _ _ h => h) fun v w' hg hk => ?_
     exact ih (L.erase j) _ _ w' hlen hL' (hG' w' fun e => hg (by simp [e])) hk
    ·rw [if_neg hwj] at h1 ⊢
     exact ⟨fun _ _ => trivial, ih (L.erase j) _ _ w hlen hL' (fun i hi => hG i (List.mem_of_mem_erase hi)) h1⟩

theorem Jkb (ops : Array Oper) : Left ops (List.range ops.size) (Array.replicate ops.size false) := by
 refine ⟨by simp, List.pairwise_lt_range, fun i => ?_, fun j oj hj hn => ?_⟩
 ·rw [List.mem_range]
  constructor
  ·intro h; exact ⟨h, by simp [h]⟩
  ·exact fun h => h.1
 ·exact absurd (List.mem_range.2 (Array.getElem?_eq_some_iff.1 hj).1) hn

theorem wpIn_draw {ρ : Option Nat} (hZ : ∀ ch a w, ¬ Z ch a w) (ok : Okay ops cl lv wt) {id : Nat} {Q : Exit → Act → World → Prop} {a : Act} {w : World} (hm : P.follows .mixedOrders = true)
  (h : RS P Z ops cl lv w.drew (fun a w => Q .normal a w) (List.range ops.size) a w.drew) : (Code.region id ops true).wpIn (WF ρ) 0 P Q a w := by
 refine wpIn_region_any hm ?_
 have := any_of_RS (Q := Q) (ρ := ρ) hZ ok (fun _ _ h => h) (List.range ops.size).length (List.range ops.size) (Array.replicate ops.size false) a w.drew rfl (Jkb ops) (fun _ _ _ _ => G.refl _) h
 simpa using this
theorem wp_draw (ok : Okay ops cl lv wt) {id : Nat} {Q : Exit → Act → World → Prop} {a : Act} {w : World} (hm : P.follows .mixedOrders = true)
  (h : RS P NoP ops cl lv w.drew (fun a w => Q .normal a w) (List.range ops.size) a w.drew) : (Code.region id ops true).wp P Q a w :=
 wpIn_wide.1 (wpIn_draw (ρ := none) (fun _ _ _ h => h) ok hm h)

theorem Xja {ρ : Option Nat} {Q : Exit → Act → World → Prop} (hZ : ∀ ch a w, Z ch a w → Q (.panic ch) a w) : ∀ (L : List Nat) (a : Act) (w : World), RS P Z ops cl (fun _ => true) W0 (fun a w => Q .normal a w) L a w → wpOpsIn (WF ρ) 0 P ops Q L a w
 | [], _, _, h => h
 | i :: rest, a, w, h => by
  obtain ⟨o, ho, hb⟩ := h
  unfold wpOpsIn
  simp only [ho]
  by_cases hw : Region.wanted o (yielded ops a.tmps) = true
  ·rw [if_pos hw]
   by_cases hc : cl i = 0 ∨ cl i = 3
   ·rw [if_pos hc] at hb
    obtain ⟨v, h1, _, h3⟩ := hb
    have hr := h1 hw w (.inr (by rw [if_pos rfl]; exact G.refl _))
    refine ⟨fun _ _ => trivial, ?_⟩
    rw [Xoa hr (fun d h => by cases h), hr]
    exact Xja hZ rest _ _ h3
   ·rw [if_neg hc, if_pos hw] at hb
    exact Eff.wpIn (hb.turn rfl (fun _ _ h => h) fun v w' _ hk => Xja hZ rest _ _ hk) (fun ch w' h => hZ _ _ _ h)
  ·rw [if_neg hw]
   refine ⟨fun _ _ => trivial, ?_⟩
   by_cases hc : cl i = 0 ∨ cl i = 3
   ·rw [if_pos hc] at hb
    obtain ⟨v, _, h2, h3⟩ := hb
    have := h2 (by simpa using hw)
    subst this
    exact Xja hZ rest _ _ h3
   ·rw [if_neg hc, if_neg hw] at hb
    exact Xja hZ rest _ _ hb

theorem wpIn_text {ρ : Option Nat} {id : Nat} {Q : Exit → Act → World → Prop} {a : Act} {w : World} (hZ : ∀ ch a w, Z ch a w → Q (.panic ch) a w) (h : RS P Z ops cl (fun _ => true) W0 (fun a w => Q .normal a w) (List.range ops.size) a w) :
  (Code.region id ops false).wpIn (WF ρ) 0 P Q a w := wpIn_region (Xja hZ _ _ _ h)
theorem wp_text {id : Nat} {Q : Exit → Act → World → Prop} {a : Act} {w : World} (h : RS P NoP ops cl (fun _ => true) W0 (fun a w => Q .normal a w) (List.range ops.size) a w) :
  (Code.region id ops false).wp P Q a w := wpIn_wide.1 (wpIn_text (ρ := none) (fun _ _ _ h => h.elim) h)
end

/-! A look at the region's text, by reckoning. -/
def clOf (cl : List Nat) (i : Nat) : Nat := cl.getD i 0
def lvOf (lv : List Bool) (i : Nat) : Bool := lv.getD i true
def wtOf (ms : List Nat) (j i : Nat) : Bool := (ms.getD j 0).testBit i

def maskOf (ms : List Nat) : List Edge → Nat
 | [] => 0
 | e :: r => if Region.binds .any e = true then (2 ^ e.on) ||| (ms.getD e.on 0) ||| maskOf ms r else maskOf ms r

def noSel (o : Oper) : Bool := match o.op with | .select .. => false | _ => true

def Wxa (ops : Array Oper) (cl : List Nat) (lv : List Bool) (ms : List Nat) (E : List (Nat × Oper × Nat)) (k : Nat) (o : Oper) : Bool :=
 noSel o && Nat.ble (clOf cl k) 3 && o.after.toList.all (fun e => !Region.binds .any e || Nat.blt e.on k) && Nat.beq (ms.getD k 0) (maskOf ms o.after.toList) &&
 E.all (fun p => (ms.getD k 0).testBit p.1 || (p.2.1.apart ops o && (Nat.beq p.2.2 3 || Nat.beq (clOf cl k) 3 || (Nat.beq p.2.2 0 || Nat.beq (clOf cl k) 0) && !Nat.beq p.2.2 2 && !Nat.beq (clOf cl k) 2))) &&
 (!Nat.beq (clOf cl k) 0 || if lvOf lv k = true then E.all (fun p => Nat.beq p.2.2 0 || Nat.beq p.2.2 3 || (ms.getD k 0).testBit p.1) else E.all (fun p => !Nat.beq p.2.2 2))

def Xbb (ops : Array Oper) (cl : List Nat) (lv : List Bool) (ms : List Nat) : List (Nat × Oper × Nat) → Nat → List Oper → Bool
 | _, _, [] => true
 | E, k, o :: rest => Wxa ops cl lv ms E k o && Xbb ops cl lv ms ((k, o, clOf cl k) :: E) (k + 1) rest

def okB (l : List Oper) (cl : List Nat) (lv : List Bool) (ms : List Nat) : Bool :=
 Xbb l.toArray cl lv ms [] 0 l && Nat.ble cl.length l.length && Nat.ble ms.length l.length

theorem Jwa (ms : List Nat) (i : Nat) : ∀ (l : List Edge), (maskOf ms l).testBit i = true → ∃ e, e ∈ l ∧ Region.binds .any e = true ∧ (e.on = i ∨ wtOf ms e.on i = true)
 | [], h => by simp [maskOf] at h
 | e :: r, h => by
  unfold maskOf at h
  by_cases hb : Region.binds .any e = true
  ·rw [if_pos hb, Nat.testBit_or, Nat.testBit_or, Bool.or_eq_true, Bool.or_eq_true] at h
   rcases h with (h | h) | h
   ·refine ⟨e, List.mem_cons_self, hb, .inl ?_⟩
    rw [Nat.testBit_two_pow] at h
    simpa using h
   ·exact ⟨e, List.mem_cons_self, hb, .inr h⟩
   ·obtain ⟨e', h1, h2⟩ := Jwa ms i r h
    exact ⟨e', List.mem_cons_of_mem _ h1, h2⟩
  ·rw [if_neg hb] at h
   obtain ⟨e', h1, h2⟩ := Jwa ms i r h
   exact ⟨e', List.mem_cons_of_mem _ h1, h2⟩

theorem Zwb (ops : Array Oper) (cl : List Nat) (lv : List Bool) (ms : List Nat) : ∀ (l : List Oper) (E : List (Nat × Oper × Nat)) (k : Nat),
  (∀ j, l[j]? = ops[k + j]?) → (∀ i, i < k → ∃ oi, ops[i]? = some oi ∧ (i, oi, clOf cl i) ∈ E) → Xbb ops cl lv ms E k l = true →
  ∀ j oj, k ≤ j → ops[j]? = some oj → ∃ E', (∀ i, i < j → ∃ oi, ops[i]? = some oi ∧ (i, oi, clOf cl i) ∈ E') ∧ Wxa ops cl lv ms E' j oj = true
 | [], _, k, hl, _, _ => by
  intro j oj hkj hj
  have := hl (j - k)
  rw [show k + (j - k) = j by omega, hj] at this
  simp at this
 | o :: rest, E, k, hl, hE, h => by
  intro j oj hkj hj
  unfold Xbb at h
  rw [Bool.and_eq_true] at h
  have h0 : ops[k]? = some o := by simpa using (hl 0).symm
  by_cases hjk : j = k
  ·subst hjk
   obtain rfl : o = oj := Option.some.inj (h0.symm.trans hj)
   exact ⟨E, hE, h.1⟩
  ·refine Zwb ops cl lv ms rest ((k, o, clOf cl k) :: E) (k + 1) (fun j => by have := hl (j + 1); simpa [Nat.add_assoc, Nat.add_comm 1 j] using this) ?_ h.2 j oj (by omega) hj
   intro i hi
   by_cases hik : i = k
   ·subst hik
    exact ⟨o, h0, List.mem_cons_self⟩
   ·obtain ⟨oi, h1, h2⟩ := hE i (by omega)
    exact ⟨oi, h1, List.mem_cons_of_mem _ h2⟩

theorem okay_of {l : List Oper} {cl : List Nat} {lv : List Bool} {ms : List Nat} (h : okB l cl lv ms = true) : Okay l.toArray (clOf cl) (lvOf lv) (wtOf ms) := by
 unfold okB at h
 rw [Bool.and_eq_true, Bool.and_eq_true] at h
 obtain ⟨⟨h, hcl⟩, hml⟩ := h
 have S := Zwb l.toArray cl lv ms l [] 0 (by simp) (fun i hi => absurd hi (by omega)) h
 have at_ : ∀ j oj, l.toArray[j]? = some oj → ∃ E', (∀ i, i < j → ∃ oi, l.toArray[i]? = some oi ∧ (i, oi, clOf cl i) ∈ E') ∧ Wxa l.toArray cl lv ms E' j oj = true := fun j oj hj => S j oj (Nat.zero_le _) hj
 have hsize : ∀ j, l.toArray.size ≤ j → clOf cl j = 0 ∧ ms.getD j 0 = 0 := by
  intro j hj
  have h1 := Nat.le_of_ble_eq_true hcl
  have h2 := Nat.le_of_ble_eq_true hml
  simp only [List.size_toArray] at hj
  constructor
  ·unfold clOf; rw [List.getD_eq_getElem?_getD, List.getElem?_eq_none (by omega)]; rfl
  ·rw [List.getD_eq_getElem?_getD, List.getElem?_eq_none (by omega)]; rfl
 refine ⟨?_, ?_, ?_, ?_, ?_, ?_, ?_⟩
 ·intro j o cs b hj heq
  obtain ⟨E', _, hh⟩ := at_ j o hj
  simp [Wxa, noSel, heq] at hh
 ·intro j o i hj hw
  obtain ⟨E', _, hh⟩ := at_ j o hj
  simp only [Wxa, Bool.and_eq_true] at hh
  have hm := Nat.eq_of_beq_eq_true hh.1.1.2
  unfold wtOf at hw
  rw [hm] at hw
  obtain ⟨e, h1, h2⟩ := Jwa ms i _ hw
  exact ⟨e, Array.mem_toList_iff.1 h1, h2⟩
 ·intro j o e hj he hb
  obtain ⟨E', _, hh⟩ := at_ j o hj
  simp only [Wxa, Bool.and_eq_true, List.all_eq_true, Array.mem_toList_iff, Bool.or_eq_true, Bool.not_eq_true'] at hh
  rcases hh.1.1.1.2 e he with h1 | h1
  ·rw [hb] at h1; cases h1
  ·exact Nat.le_of_ble_eq_true h1
 ·intro i j oi oj hij hi hj hw
  obtain ⟨E', hE, hh⟩ := at_ j oj hj
  simp only [Wxa, Bool.and_eq_true, List.all_eq_true, Bool.or_eq_true] at hh
  obtain ⟨oi', h1, h2⟩ := hE i hij
  obtain rfl : oi' = oi := Option.some.inj (h1.symm.trans hi)
  rcases hh.1.2 _ h2 with h3 | h3
  ·unfold wtOf at hw; rw [h3] at hw; cases hw
  ·obtain ⟨a1, h4⟩ := h3
   refine ⟨a1, ?_⟩
   rcases h4 with (h4 | h4) | h4
   ·exact .inl (Nat.eq_of_beq_eq_true h4)
   ·exact .inr (.inl (Nat.eq_of_beq_eq_true h4))
   ·obtain ⟨⟨a2, a3⟩, a4⟩ := h4
    refine .inr (.inr ⟨?_, ?_, ?_⟩)
    ·rcases a2 with a2 | a2
     ·exact .inl (Nat.eq_of_beq_eq_true a2)
     ·exact .inr (Nat.eq_of_beq_eq_true a2)
    ·intro h; dsimp only at a3; rw [h] at a3; simp at a3
    ·intro h; rw [h] at a4; simp at a4
 ·intro i
  rcases Nat.lt_or_ge i l.toArray.size with hi | hi
  ·obtain ⟨E', _, hh⟩ := at_ i _ (Array.getElem?_eq_getElem hi)
   simp only [Wxa, Bool.and_eq_true] at hh
   exact Nat.le_of_ble_eq_true hh.1.1.1.1.2
  ·rw [(hsize i hi).1]; omega
 ·intro i j hij hj hcj hl hc hc3
  obtain ⟨E', hE, hh⟩ := at_ j _ (Array.getElem?_eq_getElem hj)
  obtain ⟨oi, h1, h2⟩ := hE i hij
  simp only [Wxa, Bool.and_eq_true] at hh
  have h3 := hh.2
  rw [hcj, hl] at h3
  simp only [Nat.beq_refl, Bool.not_true, Bool.false_or, if_true, List.all_eq_true, Bool.or_eq_true] at h3
  rcases h3 _ h2 with (h3 | h3) | h3
  ·exact absurd (Nat.eq_of_beq_eq_true h3) hc
  ·exact absurd (Nat.eq_of_beq_eq_true h3) hc3
  ·exact h3
 ·intro i j hij hj hcj hl hc
  obtain ⟨E', hE, hh⟩ := at_ j _ (Array.getElem?_eq_getElem hj)
  obtain ⟨oi, h1, h2⟩ := hE i hij
  simp only [Wxa, Bool.and_eq_true] at hh
  have h3 := hh.2
  rw [hcj, hl] at h3
  simp only [Nat.beq_refl, Bool.not_true, Bool.false_or] at h3
  rw [if_neg (by simp)] at h3
  have h4 := List.all_eq_true.1 h3 _ h2
  dsimp only at h4
  rw [hc] at h4
  simp at h4
end Go.Rk
namespace Go.Rk
open Go Go.RowKit
set_option linter.unusedVariables false

abbrev Ent := Nat × Prop × Value

def look : List Ent → Nat → Option (Prop × Value)
 | [], _ => none
 | (k, c, v) :: r, t => bif Nat.beq k t then some (c, v) else look r t

def Kn (n : Nat) (σ : List Ent) (a : Act) : Prop :=
 a.tmps.size = n ∧ a.defers = [] ∧ ∀ t c v, look σ t = some (c, v) → (c → a.tmps[t]? = some v) ∧ (¬ c → a.tmps[t]? = some undef)

def Ev (n : Nat) (σ : List Ent) (c : Prop) (x : Operand) (v : Value) : Prop := ∀ a, Kn n σ a → c → a.eval x = v

theorem Zra (a : Act) (v : Value) : a.eval (.const v) = v := rfl
theorem Kn.at_ {n : Nat} {σ : List Ent} {a : Act} (h : Kn n σ a) {t : Nat} {c : Prop} {v : Value} (hl : look σ t = some (c, v)) (hc : c) : a.tmps[t]? = some v := (h.2.2 t c v hl).1 hc

section
variable {n : Nat} {σ : List Ent} {c : Prop} {v : Value}
theorem Zb {t : Nat} (h : look σ t = some (True, v)) : Ev n σ c (.tmp t) v := fun a ha _ => by
 simp [Act.eval, ha.at_ h trivial]
theorem Zy {t : Nat} {c' : Prop} (h : look σ t = some (c', v)) (hc : c → c') : Ev n σ c (.tmp t) v := fun a ha h1 => by
 simp [Act.eval, ha.at_ h (hc h1)]
theorem Zl : Ev n σ c (.const v) v := fun _ _ _ => rfl
theorem ev_g {g : Nat} : Ev n σ c (.global g) (.pointer (some ⟨g, 0, none⟩)) := fun _ _ _ => rfl
theorem Yl {f : Nat} : Ev n σ c (.func f) (.func (.func f) #[] #[]) := fun _ _ _ => rfl
theorem Ev.to {x : Operand} {v' : Value} (h : Ev n σ c x v) (e : c → v = v') : Ev n σ c x v' := fun a ha hc => (h a ha hc).trans (e hc)
end

theorem Kn.put {n : Nat} {σ : List Ent} {a : Act} (h : Kn n σ a) {d : Nat} (hd : Nat.blt d n = true) {c : Prop} {v v' : Value} (h1 : c → v' = v) (h2 : ¬ c → v' = undef) :
  Kn n ((d, c, v) :: σ) (a.put (some d) v') := by
 have hd' : d < n := Nat.le_of_ble_eq_true hd
 refine ⟨by simp [Act.put, h.1], h.2.1, fun t c' u hl => ?_⟩
 unfold look at hl
 by_cases ht : d = t
 ·subst ht
  simp only [Nat.beq_refl, cond_true] at hl
  injection hl with hl
  injection hl with e1 e2
  subst e1
  subst e2
  have hs : d < a.tmps.size := by rw [h.1]; exact hd'
  simp only [Act.put]
  rw [Array.getElem?_setIfInBounds_self_of_lt hs]
  exact ⟨fun hc => by rw [h1 hc], fun hc => by rw [h2 hc]⟩
 ·have : Nat.beq d t = false := by
   cases hb : Nat.beq d t with
   | false => rfl
   | true => exact absurd (Nat.eq_of_beq_eq_true hb) ht
  rw [this] at hl
  simp only [cond_false] at hl
  simp only [Act.put]
  rw [Array.getElem?_setIfInBounds_ne ht]
  exact h.2.2 t c' u hl

def Sub (τ σ : List Ent) : Prop := ∀ t c v, look τ t = some (c, v) → look σ t = some (c, v)
theorem Zd (σ : List Ent) : Sub [] σ := fun _ _ _ h => by simp [look] at h
theorem Za {t : Nat} {c : Prop} {v : Value} {τ σ : List Ent} (h : look σ t = some (c, v)) (k : Sub τ σ) : Sub ((t, c, v) :: τ) σ := fun u c' v' hl => by
 unfold look at hl
 cases hb : Nat.beq t u with
 | true =>
  rw [hb] at hl
  obtain rfl := Nat.eq_of_beq_eq_true hb
  simp only [cond_true] at hl
  injection hl with hl
  injection hl with e1 e2
  subst e1
  subst e2
  exact h
 | false => rw [hb] at hl; exact k u c' v' hl
theorem Kn.sub {n : Nat} {τ σ : List Ent} {a : Act} (h : Kn n σ a) (k : Sub τ σ) : Kn n τ a := ⟨h.1, h.2.1, fun t c v hl => h.2.2 t c v (k t c v hl)⟩

/-! ## Operations that read -/
def Rd (P : Program) (n : Nat) (σ : List Ent) (c : Prop) (wb : World) (op : Op) (ty : TypeId) (v : Value) : Prop :=
 ∀ (d : Option Tmp) (pos : String) (after : Array Edge) (g : Option (Nat × Bool)) (a : Act), Kn n σ a → c → ∀ w1, G wb w1 → (execOp a.eval ⟨d, op, ty, pos, after, g⟩).run P w1 = .ok (.value v) w1

def tyOne (P : Program) (t : TypeId) : Bool := match P.underlying t with | some (.struct _) => false | some (.array _ _) => false | some _ => true | none => false
def tyAgg (P : Program) (t : TypeId) : Option Nat := match P.underlying t, P.info? t with | some (.struct _), some i => some i.size | some (.array _ _), some i => some i.size | _, _ => none
def tySize (P : Program) (t : TypeId) : Option Nat := (P.info? t).map (·.size)
def tyElem (P : Program) (t : TypeId) : Option (TypeId × Nat × Nat) := match P.underlying t with | some (.slice e) => (P.info? e).map fun i => (e, i.size, i.bytes) | _ => none
def Xcb (P : Program) (t : TypeId) : Bool := match P.underlying t with | some .string => true | _ => false
def Ud (P : Program) (s : TypeId) (k : Nat) : Option Nat := match P.underlying s with
 | some (.struct fs) => match fs[k]? with
  | some f => match P.info? f.type with
   | some i => if i.size = 0 then none else some f.offset
   | none => none
  | none => none
 | _ => none
def fieldIn (P : Program) (s : TypeId) (k : Nat) : Option (Nat × Option Nat) := match P.underlying s with
 | some (.struct fs) => match fs[k]? with
  | some f => if tyOne P f.type = true then some (f.offset, none) else (tyAgg P f.type).map fun z => (f.offset, some z)
  | none => none
 | _ => none

def RowAt (w : World) (b o : Nat) (l : List Value) : Prop := ∀ j v, l[j]? = some v → w.cell? ⟨b, o + j, none⟩ = some v
theorem Vla {w w1 : World} (h : G w w1) {a : Addr} {v : Value} (hc : w.cell? a = some v) : w1.cell? a = some v := (Below.cell h (World.block_lt_of_cell? w a hc)).trans hc
theorem RowAt.grow {w w1 : World} {b o : Nat} {l : List Value} (h : RowAt w b o l) (hg : G w w1) : RowAt w1 b o l := fun j v hj => Vla hg (h j v hj)
theorem RowAt.part {w : World} {b o : Nat} {l : List Value} (h : RowAt w b o l) (i m : Nat) : RowAt w b (o + i) ((l.drop i).take m) := fun j v hj => by
 rw [List.getElem?_take] at hj
 split at hj
 ·rw [List.getElem?_drop] at hj
  have := h (i + j) v hj
  rwa [← Nat.add_assoc] at this
 ·cases hj
theorem RowAt.one {w : World} {b o : Nat} {l : List Value} (h : RowAt w b o l) {i : Nat} {v : Value} (hi : l[i]? = some v) : w.cell? ⟨b, o + i, none⟩ = some v := h i v hi

section
variable {P : Program} {n : Nat} {σ : List Ent} {c : Prop} {wb : World} {ty : TypeId}

theorem Zi {x : Operand} {v : Value} (h : Ev n σ c x v) : Rd P n σ c wb (.move x) ty v := fun d pos after g a ha hc w1 _ => by
 simp [execOp, h a ha hc]
theorem Ze {x : Operand} {v : Value} (h : Ev n σ c x v) : Rd P n σ c wb (.assign x) ty v := fun d pos after g a ha hc w1 _ => by
 simp [execOp, h a ha hc]
theorem Xl {x : Operand} {b : Addr} (h : Ev n σ c x (.pointer (some b))) : Rd P n σ c wb (.nilCheck x) ty (.pointer (some b)) := fun d pos after g a ha hc w1 _ => by
 simp [execOp, h a ha hc]
theorem Ye {x y : Operand} {g y' : Bool} (h : Ev n σ c x (.bool g)) (h1 : Ev n σ (c ∧ g = true) y (.bool y')) : Rd P n σ c wb (.pick x y (.const (.bool false))) ty (.bool (g && y')) := fun d pos after gd a ha hc w1 _ => by
 cases g with
 | false => simp [execOp, h a ha hc, asBool, Zra]
 | true => simp [execOp, h a ha hc, asBool, h1 a ha ⟨hc, rfl⟩]
theorem Yz {x y : Operand} {g y' : Bool} (h : Ev n σ c x (.bool g)) (h1 : Ev n σ (c ∧ g = false) y (.bool y')) : Rd P n σ c wb (.pick x (.const (.bool true)) y) ty (.bool (g || y')) := fun d pos after gd a ha hc w1 _ => by
 cases g with
 | true => simp [execOp, h a ha hc, asBool, Zra]
 | false => simp [execOp, h a ha hc, asBool, h1 a ha ⟨hc, rfl⟩]

theorem Zm {s k off b o : Nat} {x : Operand} (hf : Ud P s k = some off) (h : Ev n σ c x (.pointer (some ⟨b, o, none⟩))) :
  Rd P n σ c wb (.fieldAddr s x k) ty (.pointer (some ⟨b, o + off, none⟩)) := fun d pos after gd a ha hc w1 _ => by
 unfold Ud at hf
 split at hf
 ·rename_i fs hs
  split at hf
  ·rename_i f hk
   split at hf
   ·rename_i i hi
    split at hf
    ·cases hf
    ·rename_i hz
     injection hf with hf
     subst hf
     simp [execOp, h a ha hc, Instr.fieldAt, run_underlying hs, hk, Instr.sureAddr, fieldPlace, sizeOf, typeInfo, hi, hz, Addr.add_lit]
   ·cases hf
  ·cases hf
 ·cases hf

theorem Uab {t : TypeId} (ht : tyOne P t = true) {w : World} {ad : Addr} {v : Value} (hc : w.cell? ad = some v) : (loadVar t ad).run P w = .ok v w := by
 unfold tyOne at ht
 split at ht <;> try (cases ht; done)
 rename_i d hd1 hd2 hd
 have : (isAgg t).run P w = .ok false w := by
  simp only [isAgg, Sem.run_bind, run_underlying hd, Result.andThen_ok]
  rfl
 simp [loadVar, this, hc]

theorem Ubb {t : TypeId} {z : Nat} (ht : tyAgg P t = some z) {w : World} {b o : Nat} {l : List Value} (hl : l.length = z) (hc : RowAt w b o l) :
  (loadVar t ⟨b, o, none⟩).run P w = .ok (.agg l.toArray) w := by
 have : (isAgg t).run P w = .ok true w ∧ (sizeOf t).run P w = .ok z w := by
  unfold tyAgg at ht
  split at ht
  ·rename_i fs i hs hi
   injection ht with ht
   constructor
   ·simp only [isAgg, Sem.run_bind, run_underlying hs, Result.andThen_ok]; rfl
   ·simp [sizeOf, typeInfo, hi, ht]
  ·rename_i fs m i hs hi
   injection ht with ht
   constructor
   ·simp only [isAgg, Sem.run_bind, run_underlying hs, Result.andThen_ok]; rfl
   ·simp [sizeOf, typeInfo, hi, ht]
  ·cases ht
 have hload := run_loadCells_list (P := P) (w := w) ⟨b, o, none⟩ l (fun j v hj => by rw [Addr.add_lit]; exact hc j v hj)
 rw [hl] at hload
 simp [loadVar, this.1, this.2, hload]

theorem Zt {t b o : Nat} {x : Operand} {v : Value} (ht : tyOne P t = true) (h : Ev n σ c x (.pointer (some ⟨b, o, none⟩))) (hc : c → wb.cell? ⟨b, o, none⟩ = some v) :
  Rd P n σ c wb (.load t x) ty v := fun d pos after gd a ha hc' w1 hg => by
 simp [execOp, h a ha hc', Instr.loadAt, Instr.sureAddr, Uab ht (Vla hg (hc hc'))]
theorem Yb {t b o z : Nat} {x : Operand} {l : List Value} (ht : tyAgg P t = some z) (h : Ev n σ c x (.pointer (some ⟨b, o, none⟩))) (hl : l.length = z) (hc : c → RowAt wb b o l) :
  Rd P n σ c wb (.load t x) ty (.agg l.toArray) := fun d pos after gd a ha hc' w1 hg => by
 simp [execOp, h a ha hc', Instr.loadAt, Instr.sureAddr, Ubb ht hl ((hc hc').grow hg)]

theorem Wu {x : Operand} {i : Nat} {vs : Array Value} {v : Value} (h : Ev n σ c x (.tuple vs)) (hv : vs[i]? = some v) : Rd P n σ c wb (.extract x i) ty v := fun d pos after gd a ha hc w1 _ => by
 simp [execOp, h a ha hc, Instr.extract, hv]

/-! integers -/
theorem Jlb {x : Int} (h : -9223372036854775808 ≤ x ∧ x ≤ 9223372036854775807) : IntKind.i64.wrap x = x := by
 rw [IntKind.wrap_i64]; omega
theorem Qna {op : BinOp} {t u : TypeId} {x y : Operand} {k : IntKind} {i j r : Int} (h : Ev n σ c x (.int k i)) (h' : Ev n σ c y (.int k j))
  (hr : c → Op.intArith op k i j = pure (.int k r)) (ho : op = .add ∨ op = .sub ∨ op = .mul) : Rd P n σ c wb (.binOp op t x y u) ty (.int k r) := fun d pos after gd a ha hc w1 _ => by
 rcases ho with rfl | rfl | rfl <;> simp [execOp, h a ha hc, h' a ha hc, eqGuard_at_int, binOp, hr hc]
theorem Xq {t u : TypeId} {x y : Operand} {i j : Int} (h : Ev n σ c x (.int .i64 i)) (h' : Ev n σ c y (.int .i64 j)) (hr : c → -9223372036854775808 ≤ i + j ∧ i + j ≤ 9223372036854775807) :
  Rd P n σ c wb (.binOp .add t x y u) ty (.int .i64 (i + j)) := Qna h h' (fun hc => by simp [Op.intArith, Jlb (hr hc)]) (.inl rfl)
theorem rd_sub {t u : TypeId} {x y : Operand} {i j : Int} (h : Ev n σ c x (.int .i64 i)) (h' : Ev n σ c y (.int .i64 j)) (hr : c → -9223372036854775808 ≤ i - j ∧ i - j ≤ 9223372036854775807) :
  Rd P n σ c wb (.binOp .sub t x y u) ty (.int .i64 (i - j)) := Qna h h' (fun hc => by simp [Op.intArith, Jlb (hr hc)]) (.inr (.inl rfl))
theorem rd_addw {t u : TypeId} {x y : Operand} {k : IntKind} {i j : Int} (h : Ev n σ c x (.int k i)) (h' : Ev n σ c y (.int k j)) :
  Rd P n σ c wb (.binOp .add t x y u) ty (.int k (k.wrap (i + j))) := Qna h h' (fun hc => by simp [Op.intArith]) (.inl rfl)
theorem rd_subw {t u : TypeId} {x y : Operand} {k : IntKind} {i j : Int} (h : Ev n σ c x (.int k i)) (h' : Ev n σ c y (.int k j)) :
  Rd P n σ c wb (.binOp .sub t x y u) ty (.int k (k.wrap (i - j))) := Qna h h' (fun hc => by simp [Op.intArith]) (.inr (.inl rfl))
theorem rd_mulw {t u : TypeId} {x y : Operand} {k : IntKind} {i j : Int} (h : Ev n σ c x (.int k i)) (h' : Ev n σ c y (.int k j)) :
  Rd P n σ c wb (.binOp .mul t x y u) ty (.int k (k.wrap (i * j))) := Qna h h' (fun hc => by simp [Op.intArith]) (.inr (.inr rfl))
theorem Yg {t u : TypeId} {x y : Operand} {k : IntKind} {i j : Int} (h : Ev n σ c x (.int k i)) (h' : Ev n σ c y (.int k j)) : Rd P n σ c wb (.binOp .eql t x y u) ty (.bool (decide (i = j))) := fun d pos after gd a ha hc w1 _ => by
 simp [execOp, h a ha hc, h' a ha hc, eqGuard_at_int, binOp, Op.intCmp]; rfl
theorem Qi {t u : TypeId} {x y : Operand} {k : IntKind} {i j : Int} (h : Ev n σ c x (.int k i)) (h' : Ev n σ c y (.int k j)) : Rd P n σ c wb (.binOp .neq t x y u) ty (.bool (!decide (i = j))) := fun d pos after gd a ha hc w1 _ => by
 simp [execOp, h a ha hc, h' a ha hc, eqGuard_at_int, binOp, Op.intCmp]; rfl
theorem Vh {t u : TypeId} {x y : Operand} {k : IntKind} {i j : Int} (h : Ev n σ c x (.int k i)) (h' : Ev n σ c y (.int k j)) : Rd P n σ c wb (.binOp .lss t x y u) ty (.bool (decide (i < j))) := fun d pos after gd a ha hc w1 _ => by
 simp [execOp, h a ha hc, h' a ha hc, eqGuard_at_int, binOp, Op.intCmp]
theorem Zxb {t u : TypeId} {x y : Operand} {k : IntKind} {i j : Int} (h : Ev n σ c x (.int k i)) (h' : Ev n σ c y (.int k j)) : Rd P n σ c wb (.binOp .leq t x y u) ty (.bool (decide (i ≤ j))) := fun d pos after gd a ha hc w1 _ => by
 simp [execOp, h a ha hc, h' a ha hc, eqGuard_at_int, binOp, Op.intCmp]
theorem Js {t u : TypeId} {x y : Operand} {k : IntKind} {i j : Int} (h : Ev n σ c x (.int k i)) (h' : Ev n σ c y (.int k j)) : Rd P n σ c wb (.binOp .gtr t x y u) ty (.bool (decide (j < i))) := fun d pos after gd a ha hc w1 _ => by
 simp [execOp, h a ha hc, h' a ha hc, eqGuard_at_int, binOp, Op.intCmp]
theorem Wla {t u : TypeId} {x y : Operand} {k : IntKind} {i j : Int} (h : Ev n σ c x (.int k i)) (h' : Ev n σ c y (.int k j)) : Rd P n σ c wb (.binOp .geq t x y u) ty (.bool (decide (j ≤ i))) := fun d pos after gd a ha hc w1 _ => by
 simp [execOp, h a ha hc, h' a ha hc, eqGuard_at_int, binOp, Op.intCmp]
theorem rd_beq {t u : TypeId} {x y : Operand} {i j : Bool} (ht : P.underlying t = some .bool) (h : Ev n σ c x (.bool i)) (h' : Ev n σ c y (.bool j)) : Rd P n σ c wb (.binOp .eql t x y u) ty (.bool (i == j)) := fun d pos after gd a ha hc w1 _ => by
 simp [execOp, h a ha hc, h' a ha hc, eqGuard_at_bool, binOp, Op.equal, Op.maxDepth, run_equalIn_bool' w1 9999 t i j ht]
theorem Ub {t : TypeId} {x : Operand} {i : Bool} (h : Ev n σ c x (.bool i)) : Rd P n σ c wb (.unOp .not t x) ty (.bool (!i)) := fun d pos after gd a ha hc w1 _ => by
 simp [execOp, h a ha hc, Op.unary]
/-! strings -/
@[reducible] def Str (l : List UInt8) : Value := .string ⟨l.toArray⟩
theorem Yh {t u : TypeId} {x y : Operand} {i j : List UInt8} (h : Ev n σ c x (Str i)) (h' : Ev n σ c y (Str j)) : Rd P n σ c wb (.binOp .eql t x y u) ty (.bool (decide (i = j))) := fun d pos after gd a ha hc w1 _ => by
 simp [execOp, h a ha hc, h' a ha hc, eqGuard_at_string, binOp, Op.stringOp]; rw [Bool.eq_iff_iff]; simp
theorem Jmb {t u : TypeId} {x y : Operand} {i j : List UInt8} (h : Ev n σ c x (Str i)) (h' : Ev n σ c y (Str j)) : Rd P n σ c wb (.binOp .neq t x y u) ty (.bool (!decide (i = j))) := fun d pos after gd a ha hc w1 _ => by
 simp [execOp, h a ha hc, h' a ha hc, eqGuard_at_string, binOp, Op.stringOp]; rw [Bool.eq_iff_iff]; simp
theorem Uga {t u : TypeId} {x y : Operand} {i j : List UInt8} (h : Ev n σ c x (Str i)) (h' : Ev n σ c y (Str j)) (hl : c → i.length + j.length ≤ 9223372036854775807) : Rd P n σ c wb (.binOp .add t x y u) ty (Str (i ++ j)) := fun d pos after gd a ha hc w1 _ => by
 have hs := run_string_add_sum (P := P) w1 ⟨i.toArray⟩ ⟨j.toArray⟩ (by have := hl hc; simpa [ByteArray.size] using this)
 rw [ByteArray.mk_append_mk] at hs
 simp [execOp, h a ha hc, h' a ha hc, eqGuard_at_string, binOp, hs]
theorem Vl {t : TypeId} (h : Xcb P t = true) : P.underlying t = some .string := by
 unfold Xcb at h; split at h
 ·assumption
 ·cases h
theorem Wz {t : TypeId} {x : Operand} {i : List UInt8} (ht : Xcb P t = true) (h : Ev n σ c x (Str i)) : Rd P n σ c wb (.call { callee := .builtin .len, args := #[x], argTypes := #[t] }) ty (.int .i64 i.length) := fun d pos after gd a ha hc w1 _ => by
 have hr := run_len_string (P := P) w1 t ty ⟨i.toArray⟩ (Vl ht)
 simp [execOp, resolve, invoke, builtin, h a ha hc, hr, ByteArray.size, goInt]
theorem Uf {t : TypeId} {x y : Operand} {l : List UInt8} {k : IntKind} {i : Int} (ht : Xcb P t = true) (h : Ev n σ c x (Str l)) (h' : Ev n σ c y (.int k i)) (hi : c → 0 ≤ i ∧ i < l.length) :
  Rd P n σ c wb (.index t x y) ty (.int .u8 (l.getD i.toNat 0).toNat) := fun d pos after gd a ha hc w1 _ => by
 obtain ⟨h0, h1⟩ := hi hc
 have hlt : i.toNat < l.length := by omega
 have hg : (⟨l.toArray⟩ : ByteArray)[i.toNat]? = some l[i.toNat] := by
  rw [ByteArray.getElem?_lt' _ _ (by simpa [ByteArray.size] using hlt)]; rfl
 simp [execOp, h a ha hc, h' a ha hc, Instr.index, asIntOf, run_underlying (Vl ht), h0, hg, List.getD_eq_getElem?_getD, hlt]
theorem Qoa {t : TypeId} {x y z : Operand} {l : List UInt8} {k k' : IntKind} {i j : Int} (ht : Xcb P t = true) (h : Ev n σ c x (Str l)) (h' : Ev n σ c y (.int k i)) (h'' : Ev n σ c z (.int k' j)) (hi : c → 0 ≤ i ∧ i ≤ j ∧ j ≤ l.length) :
  Rd P n σ c wb (.slice t x (some y) (some z) none) ty (Str ((l.drop i.toNat).take (j.toNat - i.toNat))) := fun d pos after gd a ha hc w1 _ => by
 obtain ⟨h0, h1, h2⟩ := hi hc
 have e1 : (0 ≤ j ∧ j ≤ ((⟨l.toArray⟩ : ByteArray).size : Int)) := by simp [ByteArray.size]; omega
 have e2 : (0 ≤ i ∧ i ≤ (j.toNat : Int)) := by omega
 simp only [execOp, h a ha hc, h' a ha hc, h'' a ha hc, Instr.sliceAt, Option.map_some, Option.map_none, Sem.run_bind, run_underlying (Vl ht), Result.andThen_ok]
 simp [Instr.slice, run_underlying (Vl ht), Instr.sliceBounds, Instr.sliceBound, asIntOf, e1, e2, ByteArray.extract_mk]
 intro hh
 omega
theorem Qpa {t : TypeId} {x y : Operand} {l : List UInt8} {k : IntKind} {i : Int} (ht : Xcb P t = true) (h : Ev n σ c x (Str l)) (h' : Ev n σ c y (.int k i)) (hi : c → 0 ≤ i ∧ i ≤ l.length) :
  Rd P n σ c wb (.slice t x (some y) none none) ty (Str (l.drop i.toNat)) := fun d pos after gd a ha hc w1 _ => by
 obtain ⟨h0, h2⟩ := hi hc
 have e2 : (0 ≤ i ∧ i ≤ ((⟨l.toArray⟩ : ByteArray).size : Int)) := by simp [ByteArray.size]; omega
 have e3 : (l.drop i.toNat).take ((⟨l.toArray⟩ : ByteArray).size - i.toNat) = l.drop i.toNat := by
  rw [List.take_of_length_le]; simp [ByteArray.size]
 simp only [execOp, h a ha hc, h' a ha hc, Instr.sliceAt, Option.map_some, Option.map_none, Sem.run_bind, run_underlying (Vl ht), Result.andThen_ok]
 simp [Instr.slice, run_underlying (Vl ht), Instr.sliceBounds, Instr.sliceBound, asIntOf, e2, ByteArray.extract_mk, e3]
theorem Wsb {t : TypeId} {x z : Operand} {l : List UInt8} {k' : IntKind} {j : Int} (ht : Xcb P t = true) (h : Ev n σ c x (Str l)) (h'' : Ev n σ c z (.int k' j)) (hi : c → 0 ≤ j ∧ j ≤ l.length) :
  Rd P n σ c wb (.slice t x none (some z) none) ty (Str (l.take j.toNat)) := fun d pos after gd a ha hc w1 _ => by
 obtain ⟨h1, h2⟩ := hi hc
 have e1 : (0 ≤ j ∧ j ≤ ((⟨l.toArray⟩ : ByteArray).size : Int)) := by simp [ByteArray.size]; omega
 simp only [execOp, h a ha hc, h'' a ha hc, Instr.sliceAt, Option.map_some, Option.map_none, Sem.run_bind, run_underlying (Vl ht), Result.andThen_ok]
 simp [Instr.slice, run_underlying (Vl ht), Instr.sliceBounds, Instr.sliceBound, asIntOf, e1, ByteArray.extract_mk]

/-! slices -/
theorem Uh {t e z by_ : Nat} (h : tyElem P t = some (e, z, by_)) : P.underlying t = some (.slice e) ∧ ∃ i, P.info? e = some i ∧ i.size = z ∧ i.bytes = by_ := by
 unfold tyElem at h
 split at h
 ·rename_i e' he
  cases hi : P.info? e' with
  | none => simp [hi] at h
  | some i =>
   simp only [hi, Option.map_some, Option.some.injEq, Prod.mk.injEq] at h
   obtain ⟨rfl, h1, h2⟩ := h
   exact ⟨he, i, hi, h1, h2⟩
 ·cases h
theorem Xx {t e z by_ : Nat} {x : Operand} {b : Option Addr} {m q : Nat} (ht : tyElem P t = some (e, z, by_)) (h : Ev n σ c x (.slice b m q)) : Rd P n σ c wb (.call { callee := .builtin .len, args := #[x], argTypes := #[t] }) ty (.int .i64 m) := fun d pos after gd a ha hc w1 _ => by
 obtain ⟨hu, i, hi, hz, _⟩ := Uh ht
 have he : P.underlying t = some (.slice (P.elem t)) := by rw [hu]; simp [Program.elem, hu]
 have hr := run_len_slice (P := P) w1 t ty b m q he
 simp [execOp, resolve, invoke, builtin, h a ha hc, hr, goInt]
theorem Uc {t e z by_ : Nat} {x y : Operand} {b o m q : Nat} {k : IntKind} {i : Int} (ht : tyElem P t = some (e, z, by_)) (h : Ev n σ c x (.slice (some ⟨b, o, none⟩) m q)) (h' : Ev n σ c y (.int k i)) (hi : c → 0 ≤ i ∧ i < m) :
  Rd P n σ c wb (.indexAddr t x y) ty (.pointer (some ⟨b, o + i.toNat * z, none⟩)) := fun d pos after gd a ha hc w1 _ => by
 obtain ⟨hu, i', hi', hz, _⟩ := Uh ht
 obtain ⟨h0, h1⟩ := hi hc
 simp [execOp, h a ha hc, h' a ha hc, Instr.indexAt, asIntOf, run_underlying hu, h0, h1, sizeOf, typeInfo, hi', hz, Addr.add_lit]
end
end Go.Rk
namespace Go.Rk
open Go Go.RowKit
set_option linter.unusedVariables false

def Ret (P : Program) (f : FuncId) (args : Array Value) (w : World) (R : Value → World → Prop) : Prop := Calls P f args w fun e w' => ∃ v, e = .returned v ∧ R v w'
theorem Ret.mono {P : Program} {f : FuncId} {args : Array Value} {w : World} {R R' : Value → World → Prop} (h : Ret P f args w R) (hr : ∀ v w', R v w' → R' v w') : Ret P f args w R' :=
 Calls.mono h fun _ _ ⟨v, e, k⟩ => ⟨v, e, hr v _ k⟩
theorem Ret.calls {P : Program} {f : FuncId} {args : Array Value} {w : World} {R : Value → World → Prop} (h : Ret P f args w R) {R' : Ending → World → Prop} (hr : ∀ v w', R v w' → R' (.returned v) w') : Calls P f args w R' :=
 Calls.mono h fun e w' ⟨v, he, k⟩ => by subst he; exact hr v w' k

def Blk (w : World) (b : Nat) (e : TypeId) (l : List Value) : Prop := w.heap[b]? = some (.cells l.toArray e (0, 0))
theorem Blk.lt {w : World} {b : Nat} {e : TypeId} {l : List Value} (h : Blk w b e l) : b < w.heap.size := by
 rcases Nat.lt_or_ge b w.heap.size with hlt | hge
 ·exact hlt
 ·unfold Blk at h; rw [Array.getElem?_eq_none hge] at h; cases h
theorem Blk.row {w : World} {b : Nat} {e : TypeId} {l : List Value} (h : Blk w b e l) : RowAt w b 0 l := fun j v hj => by
 unfold Blk at h
 simp [World.cell?, h, hj]
theorem Blk.at_ {w : World} {b : Nat} {e : TypeId} {l : List Value} (h : Blk w b e l) {i : Nat} {v : Value} (hi : l[i]? = some v) : w.cell? ⟨b, i, none⟩ = some v := by
 have := h.row i v hi
 rwa [Nat.zero_add] at this
theorem Blk.grow {w w1 : World} {b : Nat} {e : TypeId} {l : List Value} (h : Blk w b e l) (hg : G w w1) : Blk w1 b e l := (hg.block h.lt).trans h
theorem Blk.keep {w w1 : World} {b : Nat} {e : TypeId} {l : List Value} {row : Option Nat} (h : Blk w b e l) (hg : w.grownBy w1 row) (hne : some b ≠ row) : Blk w1 b e l := (hg.block b h.lt hne).trans h

structure New (w w1 : World) (b : Nat) (e : TypeId) (l : List Value) : Prop where
 at_ : b = w.heap.size
 blk : Blk w1 b e l
 g : G w w1
 size : w1.heap.size = w.heap.size + 1
theorem New.ge {a w w1 : World} {b : Nat} {e : TypeId} {l : List Value} (h : New w w1 b e l) (g : G a w) : a.heap.size ≤ b := by have := g.size; have := h.at_; omega
theorem New.ne {w w1 : World} {b : Nat} {e : TypeId} {l : List Value} (h : New w w1 b e l) {b' : Nat} {e' : TypeId} {l' : List Value} (hB : Blk w b' e' l') : b ≠ b' := by have := hB.lt; have := h.at_; omega
theorem Jf (w : World) (e : TypeId) (l : List Value) : New w (w.alloc (.cells l.toArray e)) w.heap.size e l :=
 ⟨rfl, by unfold Blk; exact heap_alloc_new w _, (Below.refl _ _).alloc (Nat.le_refl _) _, by simp⟩

theorem G.only {w w1 : World} (h : G w w1) (row : Option Nat) : w.grownBy w1 row := ⟨h.os, h.tape, h.output, h.size, fun k hk _ => h.block hk⟩
section
variable (P : Program) (Z : List PanicEntry → Act → World → Prop) (ops : List Oper) (cl : List Nat) (lv : List Bool) (W0 : World) (n : Nat) (K : Act → World → Prop)
def SR (k : Nat) (l : List Oper) (σ : List Ent) (w : World) : Prop :=
 (∀ j o, l[j]? = some o → ops.toArray[k + j]? = some o) → ∀ a, Kn n σ a → RS P Z ops.toArray (clOf cl) (lvOf lv) W0 K (List.range' k l.length) a w
end

section
variable {P : Program} {Z : List PanicEntry → Act → World → Prop} {ops : List Oper} {cl : List Nat} {lv : List Bool} {W0 : World} {n : Nat} {K : Act → World → Prop} {k : Nat} {rest : List Oper} {σ : List Ent} {w : World} {d : Nat} {op : Op} {ty : TypeId} {pos : String} {after : Array Edge} {v : Value}

theorem Zh (h : ∀ a, Kn n σ a → K a w) : SR P Z ops cl lv W0 n K k [] σ w := fun _ a ha => h a ha
theorem Zj {l : List Oper} (τ : List Ent) (hs : Sub τ σ) (h : SR P Z ops cl lv W0 n K k l τ w) : SR P Z ops cl lv W0 n K k l σ w := fun hl a ha => h hl a (ha.sub hs)

theorem Ur {l : List Oper} {o : Oper} (hl : ∀ j o', (o :: l)[j]? = some o' → ops.toArray[k + j]? = some o') : ops.toArray[k]? = some o ∧ ∀ j o', l[j]? = some o' → ops.toArray[k + 1 + j]? = some o' :=
 ⟨hl 0 o rfl, fun j o' h => by have := hl (j + 1) o' h; rwa [show k + (j + 1) = k + 1 + j by omega] at this⟩

theorem Jxa {d : Option Nat} {y : Nat → Option Bool} : Region.wanted ⟨d, op, ty, pos, after, none⟩ y = true := rfl

theorem Ya (hb : (Nat.beq (clOf cl k) 0 && lvOf lv k && Nat.blt d n) = true) (hr : Rd P n σ True w op ty v) (h : SR P Z ops cl lv W0 n K (k + 1) rest ((d, True, v) :: σ) w) :
  SR P Z ops cl lv W0 n K k (⟨some d, op, ty, pos, after, none⟩ :: rest) σ w := fun hl a ha => by
 obtain ⟨h0, h1⟩ := Ur hl
 simp only [Bool.and_eq_true] at hb
 obtain ⟨⟨hc, hv⟩, hd⟩ := hb
 rw [List.length_cons, List.range'_succ]
 refine ⟨_, h0, ?_⟩
 have hc := Nat.eq_of_beq_eq_true hc
 rw [if_pos (.inl hc)]
 refine ⟨v, fun _ w1 hg => ?_, (fun hn => by cases hn), h h1 _ (ha.put hd (fun _ => rfl) (fun hn => absurd trivial hn))⟩
 have hg := hg.resolve_left (by omega)
 rw [if_pos hv] at hg
 exact hr _ _ _ _ a ha trivial w1 hg
theorem sr_rd0 (hb : (Nat.beq (clOf cl k) 0 && !lvOf lv k && Nat.blt d n) = true) (hr : Rd P n σ True W0 op ty v) (h : SR P Z ops cl lv W0 n K (k + 1) rest ((d, True, v) :: σ) w) :
  SR P Z ops cl lv W0 n K k (⟨some d, op, ty, pos, after, none⟩ :: rest) σ w := fun hl a ha => by
 obtain ⟨h0, h1⟩ := Ur hl
 simp only [Bool.and_eq_true, Bool.not_eq_true'] at hb
 obtain ⟨⟨hc, hv⟩, hd⟩ := hb
 rw [List.length_cons, List.range'_succ]
 refine ⟨_, h0, ?_⟩
 have hc := Nat.eq_of_beq_eq_true hc
 rw [if_pos (.inl hc)]
 refine ⟨v, fun _ w1 hg => ?_, (fun hn => by cases hn), h h1 _ (ha.put hd (fun _ => rfl) (fun hn => absurd trivial hn))⟩
 have hg := hg.resolve_left (by omega)
 rw [if_neg (by rw [hv]; simp)] at hg
 exact hr _ _ _ _ a ha trivial w1 hg

theorem Xdb {g t : Nat} {want b : Bool} {c0 : Prop} {a : Act} (hgd : ((ops.toArray[g]?).bind (·.dst)) = some t) (hlk : look σ t = some (c0, .bool b)) (ha : Kn n σ a) {d : Option Nat} :
  Region.wanted ⟨d, op, ty, pos, after, some (g, want)⟩ (yielded ops.toArray a.tmps) = true ↔ c0 ∧ b = want := by
 obtain ⟨h1, h2⟩ := ha.2.2 t c0 (.bool b) hlk
 unfold Region.wanted yielded
 simp only [hgd, Option.bind_some]
 by_cases hc : c0
 ·rw [h1 hc]; simp [hc]
 ·rw [h2 hc]; simp [hc, undef]

open Classical in
theorem Yr {g t : Nat} {want b : Bool} {c0 : Prop} (hb : (Nat.beq (clOf cl k) 0 && lvOf lv k && Nat.blt d n) = true) (hgd : ((ops.toArray[g]?).bind (·.dst)) = some t) (hlk : look σ t = some (c0, .bool b))
  (hr : Rd P n σ (c0 ∧ b = want) w op ty v) (h : SR P Z ops cl lv W0 n K (k + 1) rest ((d, c0 ∧ b = want, v) :: σ) w) :
  SR P Z ops cl lv W0 n K k (⟨some d, op, ty, pos, after, some (g, want)⟩ :: rest) σ w := fun hl a ha => by
 obtain ⟨h0, h1⟩ := Ur hl
 simp only [Bool.and_eq_true] at hb
 obtain ⟨⟨hc, hv⟩, hd⟩ := hb
 rw [List.length_cons, List.range'_succ]
 refine ⟨_, h0, ?_⟩
 have hc := Nat.eq_of_beq_eq_true hc
 rw [if_pos (.inl hc)]
 have hw := Xdb (op := op) (ty := ty) (pos := pos) (after := after) (want := want) (d := some d) hgd hlk ha
 refine ⟨if c0 ∧ b = want then v else undef, fun hwt w1 hg => ?_, fun hn => ?_, h h1 _ (ha.put hd (fun hh => if_pos hh) (fun hh => if_neg hh))⟩
 ·have hg := hg.resolve_left (by omega)
  rw [if_pos hv] at hg
  rw [if_pos (hw.1 hwt)]
  exact hr _ _ _ _ a ha (hw.1 hwt) w1 hg
 ·rw [if_neg (fun hh => by rw [hw.2 hh] at hn; cases hn)]
open Classical in
theorem Zc (hb : (Nat.beq (clOf cl k) 3 && Nat.blt d n) = true) (hr : ∀ wb, Rd P n σ True wb op ty v) (h : SR P Z ops cl lv W0 n K (k + 1) rest ((d, True, v) :: σ) w) :
  SR P Z ops cl lv W0 n K k (⟨some d, op, ty, pos, after, none⟩ :: rest) σ w := fun hl a ha => by
 obtain ⟨h0, h1⟩ := Ur hl
 simp only [Bool.and_eq_true] at hb
 rw [List.length_cons, List.range'_succ]
 refine ⟨_, h0, ?_⟩
 rw [if_pos (.inr (Nat.eq_of_beq_eq_true hb.1))]
 exact ⟨v, fun _ w1 _ => hr w1 _ _ _ _ a ha trivial w1 (G.refl _), (fun hn => by cases hn), h h1 _ (ha.put hb.2 (fun _ => rfl) (fun hn => absurd trivial hn))⟩
open Classical in
theorem Zs {g t : Nat} {want b : Bool} {c0 : Prop} (hb : (Nat.beq (clOf cl k) 3 && Nat.blt d n) = true) (hgd : ((ops.toArray[g]?).bind (·.dst)) = some t) (hlk : look σ t = some (c0, .bool b))
  (hr : ∀ wb, Rd P n σ (c0 ∧ b = want) wb op ty v) (h : SR P Z ops cl lv W0 n K (k + 1) rest ((d, c0 ∧ b = want, v) :: σ) w) :
  SR P Z ops cl lv W0 n K k (⟨some d, op, ty, pos, after, some (g, want)⟩ :: rest) σ w := fun hl a ha => by
 obtain ⟨h0, h1⟩ := Ur hl
 simp only [Bool.and_eq_true] at hb
 rw [List.length_cons, List.range'_succ]
 refine ⟨_, h0, ?_⟩
 rw [if_pos (.inr (Nat.eq_of_beq_eq_true hb.1))]
 have hw := Xdb (op := op) (ty := ty) (pos := pos) (after := after) (want := want) (d := some d) hgd hlk ha
 refine ⟨if c0 ∧ b = want then v else undef, fun hwt w1 _ => ?_, fun hn => ?_, h h1 _ (ha.put hb.2 (fun hh => if_pos hh) (fun hh => if_neg hh))⟩
 ·rw [if_pos (hw.1 hwt)]
  exact hr w1 _ _ _ _ a ha (hw.1 hwt) w1 (G.refl _)
 ·rw [if_neg (fun hh => by rw [hw.2 hh] at hn; cases hn)]

def RunV (P : Program) (n : Nat) (σ : List Ent) (c : Prop) (w : World) (op : Op) (ty : TypeId) (v : Value) (w' : World) : Prop :=
 ∀ (d : Option Tmp) (pos : String) (after : Array Edge) (g : Option (Nat × Bool)) (a : Act), Kn n σ a → c → (execOp a.eval ⟨d, op, ty, pos, after, g⟩).run P w = .ok (.value v) w'
def RunS (P : Program) (n : Nat) (σ : List Ent) (c : Prop) (w : World) (op : Op) (ty : TypeId) (w' : World) : Prop :=
 ∀ (d : Option Tmp) (pos : String) (after : Array Edge) (g : Option (Nat × Bool)) (a : Act), Kn n σ a → c → (execOp a.eval ⟨d, op, ty, pos, after, g⟩).run P w = .ok .skip w'
def RunC (P : Program) (n : Nat) (σ : List Ent) (c : Prop) (w : World) (op : Op) (ty : TypeId) (f : FuncId) (args : Array Value) : Prop :=
 ∀ (d : Option Tmp) (pos : String) (after : Array Edge) (g : Option (Nat × Bool)) (a : Act), Kn n σ a → c → (execOp a.eval ⟨d, op, ty, pos, after, g⟩).run P w = .ok (.enter f args) w

theorem Jnb {w' : World} (hb : (!Nat.beq (clOf cl k) 0 && !Nat.beq (clOf cl k) 3 && Nat.blt d n) = true) (hr : RunV P n σ True w op ty v w') (hg : clOf cl k = 1 → G w w') (h : SR P Z ops cl lv W0 n K (k + 1) rest ((d, True, v) :: σ) w') :
  SR P Z ops cl lv W0 n K k (⟨some d, op, ty, pos, after, none⟩ :: rest) σ w := fun hl a ha => by
 obtain ⟨h0, h1⟩ := Ur hl
 simp only [Bool.and_eq_true, Bool.not_eq_true'] at hb
 rw [List.length_cons, List.range'_succ]
 refine ⟨_, h0, ?_⟩
 rw [if_neg (fun he => by rcases he with he | he <;> rw [he] at hb <;> simp at hb), if_pos Jxa]
 exact .inl ⟨v, w', hr _ _ _ _ a ha trivial, fun hh => hg (by simpa using hh), h h1 _ (ha.put hb.2 (fun _ => rfl) (fun hn => absurd trivial hn))⟩
theorem sr_skip {w' : World} (hb : Nat.beq (clOf cl k) 2 = true) (hr : RunS P n σ True w op ty w') (h : SR P Z ops cl lv W0 n K (k + 1) rest σ w') :
  SR P Z ops cl lv W0 n K k (⟨none, op, ty, pos, after, none⟩ :: rest) σ w := fun hl a ha => by
 obtain ⟨h0, h1⟩ := Ur hl
 have hc := Nat.eq_of_beq_eq_true hb
 rw [List.length_cons, List.range'_succ]
 refine ⟨_, h0, ?_⟩
 rw [if_neg (by omega), if_pos Jxa]
 exact .inr (.inl ⟨w', hr _ _ _ _ a ha trivial, fun hh => by rw [hc] at hh; simp at hh, h h1 _ ha⟩)
theorem Yd {f : FuncId} {args : Array Value} {R : Value → World → Prop} (hb : (!Nat.beq (clOf cl k) 0 && !Nat.beq (clOf cl k) 3 && Nat.blt d n) = true) (hr : RunC P n σ True w op ty f args) (hC : Ret P f args w R)
  (h : ∀ v w', R v w' → (clOf cl k = 1 → G w w') ∧ SR P Z ops cl lv W0 n K (k + 1) rest ((d, True, v) :: σ) w') :
  SR P Z ops cl lv W0 n K k (⟨some d, op, ty, pos, after, none⟩ :: rest) σ w := fun hl a ha => by
 obtain ⟨h0, h1⟩ := Ur hl
 simp only [Bool.and_eq_true, Bool.not_eq_true'] at hb
 rw [List.length_cons, List.range'_succ]
 refine ⟨_, h0, ?_⟩
 rw [if_neg (fun he => by rcases he with he | he <;> rw [he] at hb <;> simp at hb), if_pos Jxa]
 refine .inr (.inr (.inl ⟨f, args, hr _ _ _ _ a ha trivial, Calls.mono hC fun e w' ⟨v, he, hv⟩ => .inl ?_⟩))
 obtain ⟨q1, q2⟩ := h v w' hv
 exact ⟨v, he, fun hh => q1 (by simpa using hh), q2 h1 _ (ha.put hb.2 (fun _ => rfl) (fun hn => absurd trivial hn))⟩
theorem sr_callg {g t : Nat} {want b : Bool} {c0 : Prop} {f : FuncId} {args : Array Value} {R : Value → World → Prop} (hb : (!Nat.beq (clOf cl k) 0 && !Nat.beq (clOf cl k) 3 && Nat.blt d n) = true)
  (hgd : ((ops.toArray[g]?).bind (·.dst)) = some t) (hlk : look σ t = some (c0, .bool b)) (hr : c0 ∧ b = want → RunC P n σ (c0 ∧ b = want) w op ty f args) (hC : c0 ∧ b = want → Ret P f args w R)
  (h : ∀ v w', (c0 ∧ b = want) → R v w' → (clOf cl k = 1 → G w w') ∧ SR P Z ops cl lv W0 n K (k + 1) rest ((d, c0 ∧ b = want, v) :: σ) w')
  (h' : ¬ (c0 ∧ b = want) → SR P Z ops cl lv W0 n K (k + 1) rest ((d, c0 ∧ b = want, undef) :: σ) w) :
  SR P Z ops cl lv W0 n K k (⟨some d, op, ty, pos, after, some (g, want)⟩ :: rest) σ w := fun hl a ha => by
 obtain ⟨h0, h1⟩ := Ur hl
 simp only [Bool.and_eq_true, Bool.not_eq_true'] at hb
 rw [List.length_cons, List.range'_succ]
 have hw := Xdb (op := op) (ty := ty) (pos := pos) (after := after) (want := want) (d := some d) hgd hlk ha
 refine ⟨_, h0, ?_⟩
 rw [if_neg (fun he => by rcases he with he | he <;> rw [he] at hb <;> simp at hb)]
 by_cases hh : c0 ∧ b = want
 ·rw [if_pos (hw.2 hh)]
  refine .inr (.inr (.inl ⟨f, args, hr hh _ _ _ _ a ha hh, Calls.mono (hC hh) fun e w' ⟨v, he, hv⟩ => .inl ?_⟩))
  obtain ⟨q1, q2⟩ := h v w' hh hv
  exact ⟨v, he, fun hq => q1 (by simpa using hq), q2 h1 _ (ha.put hb.2 (fun _ => rfl) (fun hn => absurd hh hn))⟩
 ·rw [if_neg (fun hq => hh (hw.1 hq))]
  exact h' hh h1 _ (ha.put hb.2 (fun hq => absurd hq hh) (fun _ => rfl))
theorem Xe {f : FuncId} {args : Array Value} (hb : (!Nat.beq (clOf cl k) 0 && !Nat.beq (clOf cl k) 3 && Nat.blt d n) = true) (hr : RunC P n σ True w op ty f args) (hC : Ret P f args w fun u w' => u = v ∧ G w w')
  (h : ∀ w', G w w' → SR P Z ops cl lv W0 n K (k + 1) rest ((d, True, v) :: σ) w') :
  SR P Z ops cl lv W0 n K k (⟨some d, op, ty, pos, after, none⟩ :: rest) σ w :=
 Yd hb hr hC fun u w' ⟨hu, hg⟩ => ⟨fun _ => hg, by subst hu; exact h w' hg⟩

theorem Xb {g t : Nat} {want b : Bool} {c0 : Prop} {f : FuncId} {args : Array Value} (hb : (!Nat.beq (clOf cl k) 0 && !Nat.beq (clOf cl k) 3 && Nat.blt d n) = true) (hgd : ((ops.toArray[g]?).bind (·.dst)) = some t) (hlk : look σ t = some (c0, .bool b))
  (hr : c0 ∧ b = want → RunC P n σ (c0 ∧ b = want) w op ty f args) (hC : c0 ∧ b = want → Ret P f args w fun u w' => u = v ∧ G w w')
  (h : ∀ w', G w w' → SR P Z ops cl lv W0 n K (k + 1) rest ((d, c0 ∧ b = want, v) :: σ) w') :
  SR P Z ops cl lv W0 n K k (⟨some d, op, ty, pos, after, some (g, want)⟩ :: rest) σ w := fun hl a ha => by
 obtain ⟨h0, h1⟩ := Ur hl
 simp only [Bool.and_eq_true, Bool.not_eq_true'] at hb
 rw [List.length_cons, List.range'_succ]
 have hw := Xdb (op := op) (ty := ty) (pos := pos) (after := after) (want := want) (d := some d) hgd hlk ha
 refine ⟨_, h0, ?_⟩
 rw [if_neg (fun he => by rcases he with he | he <;> rw [he] at hb <;> simp at hb)]
 by_cases hh : c0 ∧ b = want
 ·rw [if_pos (hw.2 hh)]
  refine .inr (.inr (.inl ⟨f, args, hr hh _ _ _ _ a ha hh, Calls.mono (hC hh) fun e w' ⟨u, he, hu, hg⟩ => .inl ?_⟩))
  subst hu
  exact ⟨u, he, fun _ => hg, h w' hg h1 _ (ha.put hb.2 (fun _ => rfl) (fun hn => absurd hh hn))⟩
 ·rw [if_neg (fun hq => hh (hw.1 hq))]
  exact h w (G.refl w) h1 _ (ha.put hb.2 (fun hq => absurd hq hh) (fun _ => rfl))
/-! the operations that make memory -/
theorem Wd {elem : TypeId} {x : Operand} {u : Value} {l : List Value} (hb : (!Nat.beq (clOf cl k) 0 && !Nat.beq (clOf cl k) 3 && Nat.blt d n) = true) (hx : Ev n σ True x u) (hl : u.cells = l.toArray)
  (h : ∀ b w1, New w w1 b elem l → SR P Z ops cl lv W0 n K (k + 1) rest ((d, True, .pointer (some ⟨b, 0, none⟩)) :: σ) w1) :
  SR P Z ops cl lv W0 n K k (⟨some d, .box elem x, ty, pos, after, none⟩ :: rest) σ w :=
 Jnb hb (w' := w.alloc (.cells l.toArray elem)) (fun d pos after g a ha _ => by simp [execOp, hx a ha trivial, Instr.box, newVar, newRow, hl]) (fun _ => (Jf w elem l).g) (h _ _ (Jf w elem l))

def zeroOf (P : Program) (t : TypeId) : Option Value := match P.info? t with | some i => i.zero | none => none
theorem Xka {t : TypeId} {z : Value} (h : zeroOf P t = some z) : ∃ i, P.info? t = some i ∧ i.zero = some z := by
 unfold zeroOf at h
 split at h
 ·exact ⟨_, by assumption, h⟩
 ·cases h
theorem Xr {elem : TypeId} {z : Value} {l : List Value} (hb : (!Nat.beq (clOf cl k) 0 && !Nat.beq (clOf cl k) 3 && Nat.blt d n) = true) (hz : zeroOf P elem = some z) (hl : z.cells = l.toArray)
  (h : ∀ b w1, New w w1 b elem l → SR P Z ops cl lv W0 n K (k + 1) rest ((d, True, .pointer (some ⟨b, 0, none⟩)) :: σ) w1) :
  SR P Z ops cl lv W0 n K k (⟨some d, .alloc elem, ty, pos, after, none⟩ :: rest) σ w := by
 obtain ⟨i, hi, hz'⟩ := Xka hz
 exact Jnb hb (w' := w.alloc (.cells l.toArray elem)) (fun d pos after g a ha _ => by simp [execOp, Instr.alloc, zeroValue, typeInfo, hi, hz', newVar, newRow, hl]) (fun _ => (Jf w elem l).g) (h _ _ (Jf w elem l))

def Jya (n : Nat) (σ : List Ent) (c : Prop) (ps : Array (Nat × Operand)) (vs : List (Nat × Value)) : Prop := ∀ a, Kn n σ a → c → (ps.map fun p => (p.1, a.eval p.2)).toList = vs
theorem Yc {n : Nat} {σ : List Ent} {c : Prop} : Jya n σ c #[] [] := fun _ _ _ => by simp
theorem Zp {n : Nat} {σ : List Ent} {c : Prop} {i : Nat} {x : Operand} {u : Value} {ps : List (Nat × Operand)} {vs : List (Nat × Value)} (h : Ev n σ c x u) (k : Jya n σ c ps.toArray vs) : Jya n σ c ((i, x) :: ps).toArray ((i, u) :: vs) := fun a ha hc => by
 have := k a ha hc
 simp only [List.map_toArray, List.toList_toArray] at this ⊢
 rw [List.map_cons, this, h a ha hc]

def Zaa (P : Program) (t : TypeId) : Option (List (Nat × Nat)) := match P.underlying t with
 | some (.struct fs) => fs.toList.mapM fun f => (P.info? f.type).map fun i => (f.offset, i.size)
 | _ => none
theorem Job (w : World) : ∀ (fs : List Field) (ps : List (Nat × Nat)), (fs.mapM fun f => (P.info? f.type).map fun i => (f.offset, i.size)) = some ps →
  (fs.mapM (fun f => (do pure (f.offset, ← sizeOf f.type) : Sem (Nat × Nat)))).run P w = .ok ps w
 | [], ps, h => by simp at h; subst h; rfl
 | f :: fs, ps, h => by
  rw [List.mapM_cons] at h
  cases hi : P.info? f.type with
  | none => rw [hi] at h; simp at h
  | some i =>
   rw [hi] at h
   cases hr : (fs.mapM fun f => (P.info? f.type).map fun i => (f.offset, i.size)) with
   | none => rw [hr] at h; simp at h
   | some qs =>
    rw [hr] at h
    simp at h
    subst h
    have := Job w fs qs hr
    rw [List.mapM_cons]
    simp [sizeOf, typeInfo, hi] at this ⊢
    rw [this]
    simp
def Jpb (pl : Nat → Option (Nat × Nat)) : List Value → List (Nat × Value) → Option (List Value)
 | cs, [] => some cs
 | cs, (i, v) :: rest => match pl i with
  | none => none
  | some (off, z) => if Nat.beq v.cells.toList.length z && Nat.ble (off + z) cs.length then Jpb pl (cs.take off ++ v.cells.toList ++ cs.drop (off + z)) rest else none
theorem Jqb : ∀ (vs : List Value) (off i : Nat) (cs : List Value), off + i + vs.length ≤ cs.length →
  (vs.zipIdx i).foldl (fun (cs : Array Value) (p : Value × Nat) => cs.setIfInBounds (off + p.2) p.1) cs.toArray = (cs.take (off + i) ++ vs ++ cs.drop (off + i + vs.length)).toArray
 | [], off, i, cs, _ => by simp
 | v :: vs, off, i, cs, h => by
  simp only [List.length_cons] at h
  rw [List.zipIdx_cons, List.foldl_cons]
  have e : (cs.toArray.setIfInBounds (off + i) v) = (cs.set (off + i) v).toArray := by simp
  simp only [e]
  rw [Jqb vs off (i + 1) _ (by simp; omega)]
  have hlt : off + i < cs.length := by omega
  have e1 : (cs.set (off + i) v).take (off + (i + 1)) = cs.take (off + i) ++ [v] := by
   rw [show off + (i + 1) = (off + i) + 1 by omega, List.take_add_one, List.take_set_of_le (Nat.le_refl _)]
   simp [hlt]
  have e2 : (cs.set (off + i) v).drop (off + (i + 1) + vs.length) = cs.drop (off + i + (v :: vs).length) := by
   rw [List.drop_set_of_lt (by omega)]; congr 1; simp; omega
  rw [e1, e2]
  simp [List.append_assoc]
theorem Jza (pl : Nat → Option (Nat × Nat)) : ∀ (vs : List (Nat × Value)) (cs l : List Value), Jpb pl cs vs = some l → Instr.fill pl cs.toArray vs = some l.toArray
 | [], cs, l, h => by injection h with h; subst h; rfl
 | (i, v) :: rest, cs, l, h => by
  unfold Jpb at h
  unfold Instr.fill
  split at h
  ·cases h
  ·rename_i off z hp
   split at h
   ·rename_i hc
    simp only [Bool.and_eq_true] at hc
    have h1 := Nat.eq_of_beq_eq_true hc.1
    have h2 := Nat.le_of_ble_eq_true hc.2
    simp only [hp]
    have h3 : v.cells.size = z := by simpa using h1
    rw [if_neg (by simp [h3]; omega)]
    have e : v.cells.zipIdx.foldl (fun cs x => cs.setIfInBounds (off + x.2) x.1) cs.toArray = (cs.take off ++ v.cells.toList ++ cs.drop (off + z)).toArray := by
     have := Jqb v.cells.toList off 0 cs (by rw [h1]; omega)
     rw [h1] at this
     simp only [Nat.add_zero] at this
     rw [← this, ← Array.foldl_toList, Array.toList_zipIdx]
    have e' := Jza pl rest _ l h
    rw [← e] at e'
    exact e'
   ·cases h
theorem We {c : Prop} {wb : World} {t : TypeId} {ps : Array (Nat × Operand)} {vs : List (Nat × Value)} {pl : List (Nat × Nat)} {z : Value} {zl : List Value} (l : List Value) (hz : zeroOf P t = some z) (hzl : z.cells = zl.toArray) (hp : Zaa P t = some pl) (hx : Jya n σ c ps vs)
  (hf : Jpb (fun (i : Nat) => pl[i]?) zl vs = some l) : Rd P n σ c wb (.build t ps) ty (.agg l.toArray) := fun d pos after g a ha hc w1 _ => by
 have hf := Jza _ _ _ _ hf
 rw [← hzl] at hf
 obtain ⟨i, hi, hz'⟩ := Xka hz
 unfold Zaa at hp
 split at hp
 ·rename_i fs hfs
  have hpl := Job (P := P) w1 fs.toList pl hp
  have hpl' : (fs.mapM (fun f => (do pure (f.offset, ← sizeOf f.type) : Sem (Nat × Nat)))).run P w1 = .ok pl.toArray w1 := by
   rw [Array.mapM_eq_mapM_toList]
   simp only [Sem.run_map, hpl, Result.andThen_ok]
  have hx' := hx a ha hc
  simp only [execOp, Instr.build, Sem.run_bind, zeroValue, typeInfo, run_program, Result.andThen_ok, hi, hz', Sem.run_pure, run_underlying hfs]
  rw [hpl']
  simp only [Result.andThen_ok]
  have hfun : (fun (x : Nat) => pl.toArray[x]?) = (fun (i : Nat) => pl[i]?) := by funext i; simp
  rw [hfun, hx', hf]
  rfl
 ·cases hp
def fillS (z : Nat) : Nat → List (Nat × Value) → Option (List Value)
 | _, [] => some []
 | k, (i, v) :: rest => if Nat.beq i k && Nat.beq v.cells.toList.length z then (fillS z (k + 1) rest).map (v.cells.toList ++ ·) else none
theorem Ykb (z : Nat) : ∀ (vs : List (Nat × Value)) (k : Nat) (done cs l : List Value), fillS z k vs = some l → done.length = k * z → cs.length = (k + vs.length) * z → cs.take (k * z) = done →
  Jpb (fun i => some (i * z, z)) cs vs = some (done ++ l)
 | [], k, done, cs, l, h, h1, h2, h3 => by
  injection h with h
  subst h
  unfold Jpb
  rw [← h3, List.append_nil, List.take_of_length_le (by rw [h2]; simp)]
 | (i, v) :: rest, k, done, cs, l, h, h1, h2, h3 => by
  unfold fillS at h
  split at h
  ·rename_i hc
   simp only [Bool.and_eq_true] at hc
   have e1 := Nat.eq_of_beq_eq_true hc.1
   have e2 := Nat.eq_of_beq_eq_true hc.2
   subst e1
   cases hr : fillS z (i + 1) rest with
   | none => rw [hr] at h; cases h
   | some l' =>
    rw [hr] at h
    injection h with h
    subst h
    unfold Jpb
    simp only [List.length_cons] at h2
    have hm : (i + 1) * z = i * z + z := by rw [Nat.add_mul, Nat.one_mul]
    have hm2 : (i + (rest.length + 1)) * z = i * z + z + rest.length * z := by rw [Nat.add_mul, Nat.add_mul, Nat.one_mul]; omega
    have hle : i * z + z ≤ cs.length := by rw [h2, hm2]; omega
    dsimp only
    rw [if_pos (by rw [Bool.and_eq_true]; exact ⟨hc.2, Nat.ble_eq_true_of_le hle⟩)]
    have := Ykb z rest (i + 1) (done ++ v.cells.toList) (cs.take (i * z) ++ v.cells.toList ++ cs.drop (i * z + z)) l' hr (by rw [List.length_append, h1, e2, hm]) (by
     rw [List.length_append, List.length_append, e2, List.length_take, List.length_drop, h2, hm2, Nat.add_mul, hm]; omega) (by
     rw [hm, List.take_append_of_le_length (by rw [List.length_append, e2, List.length_take]; omega), List.take_of_length_le (by rw [List.length_append, e2, List.length_take]; omega), h3])
    rw [this, List.append_assoc]
  ·cases h
theorem Zx {t e z by_ m : Nat} {ps : Array (Nat × Operand)} {vs : List (Nat × Value)} {zv : Value} (l : List Value) (hb : (!Nat.beq (clOf cl k) 0 && !Nat.beq (clOf cl k) 3 && Nat.blt d n) = true) (ht : tyElem P t = some (e, z, by_)) (hz : zeroOf P e = some zv)
  (hx : Jya n σ True ps vs) (hm : (Nat.ble (m * z) 16777216 && !Nat.beq (m * z) 0 && Nat.beq vs.length m) = true) (hf : fillS z 0 vs = some l)
  (h : ∀ b w1, New w w1 b e l → SR P Z ops cl lv W0 n K (k + 1) rest ((d, True, .slice (some ⟨b, 0, none⟩) m m) :: σ) w1) :
  SR P Z ops cl lv W0 n K k (⟨some d, .buildSlice t m ps, ty, pos, after, none⟩ :: rest) σ w := by
 obtain ⟨hu, i, hi, hsz, _⟩ := Uh ht
 obtain ⟨i', hi', hz'⟩ := Xka hz
 obtain rfl : i = i' := Option.some.inj (hi.symm.trans hi')
 simp only [Bool.and_eq_true, Bool.not_eq_true'] at hm
 have hm1 : ¬ (m * z > 2 ^ 24) := by have := Nat.le_of_ble_eq_true hm.1.1; omega
 have hm2 : ¬ (m * z = 0) := by intro he; rw [he] at hm; simp at hm
 have hvl := Nat.eq_of_beq_eq_true hm.2
 have hfill : Instr.fill (fun i => some (i * z, z)) ((Array.range (m * z)).map (zv.cells[· % zv.cells.size]!)) vs = some l.toArray := by
  have h1 := Ykb z vs 0 [] ((Array.range (m * z)).map (zv.cells[· % zv.cells.size]!)).toList l hf (by simp) (by simp [hvl]) (by simp)
  have := Jza _ _ _ _ h1
  rwa [Array.toArray_toList] at this
 refine Jnb hb (w' := w.alloc (.cells l.toArray e)) (fun d pos after g a ha _ => ?_) (fun _ => (Jf w e l).g) (h _ _ (Jf w e l))
 have hx' := hx a ha trivial
 simp only [execOp, Instr.buildSlice, Sem.run_bind, run_underlying hu, Result.andThen_ok, sizeOf, typeInfo, run_program, hi, Sem.run_pure, hsz, if_neg hm1, if_neg hm2, zeroValue, hz']
 rw [hx', hfill]
 simp [newRow]

/-! calls -/
def goFn (P : Program) (f : FuncId) : Bool := match P.funcs[f]? with | some fn => !(fn.name == "runtime.NumGoroutine") && fn.body.isSome | none => false
def Qqa (n : Nat) (σ : List Ent) (c : Prop) (xs : List Operand) (vs : List Value) : Prop := ∀ a, Kn n σ a → c → xs.map a.eval = vs
theorem Zn {n : Nat} {σ : List Ent} {c : Prop} : Qqa n σ c [] [] := fun _ _ _ => rfl
theorem Zk {n : Nat} {σ : List Ent} {c : Prop} {x : Operand} {u : Value} {xs : List Operand} {vs : List Value} (h : Ev n σ c x u) (k : Qqa n σ c xs vs) : Qqa n σ c (x :: xs) (u :: vs) := fun a ha hc => by
 rw [List.map_cons, h a ha hc, k a ha hc]
theorem Jrb {f : FuncId} (hf : goFn P f = true) (args : Array Value) (w : World) : (callFunc f args).run P w = .ok (.enter f args) w := by
 unfold goFn at hf
 split at hf
 ·rename_i fn hfn
  simp only [Bool.and_eq_true, Bool.not_eq_true'] at hf
  obtain ⟨h1, h2⟩ := hf
  have h3 : ¬ fn.body = none := by intro hb; rw [hb] at h2; cases h2
  have h4 : ¬ fn.name = "runtime.NumGoroutine" := by simpa using h1
  simp [callFunc, hfn, h4, h3]
 ·cases hf
theorem Zu {c : Prop} {x : Operand} {f : FuncId} {fs cs : Array Value} {xs : List Operand} {vs : List Value} {ats : Array TypeId} {args : Array Value} (hf : goFn P f = true) (h : Ev n σ c x (.func (.func f) fs cs)) (hx : Qqa n σ c xs vs)
  (ha : fs ++ vs.toArray ++ cs = args) : RunC P n σ c w (.call { callee := .value x, args := xs.toArray, argTypes := ats }) ty f args := fun d pos after g a hk hc => by
 have h1 := hx a hk hc
 have h2 : xs.toArray.map a.eval = vs.toArray := by rw [List.map_toArray, h1]
 simp only [execOp, resolve, h a hk hc, h2, Deferred.ofValue, Sem.run_bind, Sem.run_pure, Result.andThen_ok, invoke, ha]
 exact Jrb hf args w

def onesB (l : List Value) : Bool := l.all (·.oneCell')
theorem ones_of {l : List Value} (h : onesB l = true) : ∀ u ∈ l, u.oneCell' = true := fun u hu => List.all_eq_true.1 h u hu
/-! stores -/
theorem run_setCell {b o : Nat} {e : TypeId} {l : List Value} {v : Value} (hB : Blk w b e l) (ho : o < l.length) (hv : v.oneCell' = true) :
  (store ⟨b, o, none⟩ v).run P w = .ok () (w.setCell ⟨b, o, none⟩ v) ∧ Blk (w.setCell ⟨b, o, none⟩ v) b e (l.set o v) ∧ w.grownBy (w.setCell ⟨b, o, none⟩ v) (some b) := by
 have hc : w.cell? ⟨b, o, none⟩ = some l[o] := hB.at_ (List.getElem?_eq_getElem ho)
 have hfz : w.frozen? ⟨b, o, none⟩ = false := by unfold Blk at hB; simp [World.frozen?, hB]
 refine ⟨?_, ?_, ⟨rfl, rfl, rfl, by simp, fun k hk hne => Below.heap_setCell _ _ _ _ (fun he => hne (by rw [he]))⟩⟩
 ·rw [run_store P w _ v _ hv, hc]; simp [hfz]
 ·unfold Blk at hB ⊢
  simp [World.setCell, Array.getElem?_modify, hB]
theorem Zyb {a b c : World} {row : Option Nat} (h : a.grownBy b row) (k : b.grownBy c row) : a.grownBy c row :=
 ⟨k.os.trans h.os, k.tape.trans h.tape, k.output.trans h.output, Nat.le_trans h.size k.size, fun i hi hn => (k.block i (Nat.lt_of_lt_of_le hi h.size) hn).trans (h.block i hi hn)⟩
theorem Xeb {b e : Nat} : ∀ (vs : List Value) (o i : Nat) (l : List Value) (w : World), Blk w b e l → o + i + vs.length ≤ l.length → (∀ u ∈ vs, u.oneCell' = true) →
  ∃ w', (storeCells ⟨b, o, none⟩ vs i).run P w = .ok () w' ∧ Blk w' b e (l.take (o + i) ++ vs ++ l.drop (o + i + vs.length)) ∧ w.grownBy w' (some b) ∧ w'.heap.size = w.heap.size
 | [], o, i, l, w, hB, _, _ => ⟨w, rfl, by simpa using hB, ⟨rfl, rfl, rfl, Nat.le_refl _, fun _ _ _ => rfl⟩, rfl⟩
 | v :: vs, o, i, l, w, hB, hl, h1 => by
  simp only [List.length_cons] at hl
  obtain ⟨q1, q2, q3⟩ := run_setCell (P := P) hB (o := o + i) (by omega) (h1 v List.mem_cons_self)
  obtain ⟨w', r1, r2, r3, r4⟩ := Xeb vs o (i + 1) (l.set (o + i) v) _ q2 (by simp; omega) (fun u hu => h1 u (List.mem_cons_of_mem _ hu))
  refine ⟨w', ?_, ?_, Zyb q3 r3, by rw [r4]; simp⟩
  ·simp only [storeCells, Sem.run_bind, Addr.add_lit, q1, Result.andThen_ok]
   exact r1
  ·have hlt : o + i < l.length := by omega
   have e1 : (l.set (o + i) v).take (o + (i + 1)) = l.take (o + i) ++ [v] := by
    rw [show o + (i + 1) = (o + i) + 1 by omega, List.take_add_one, List.take_set_of_le (Nat.le_refl _)]
    simp [hlt]
   have e2 : (l.set (o + i) v).drop (o + (i + 1) + vs.length) = l.drop (o + i + (v :: vs).length) := by
    rw [List.drop_set_of_lt (by omega)]; congr 1; simp; omega
   rw [e1, e2] at r2
   simpa [List.append_assoc] using r2

theorem Us {t : TypeId} {x y : Operand} {b o z : Nat} {e : TypeId} {u : Value} {l vs : List Value} (hb : Nat.beq (clOf cl k) 2 = true) (hs : tySize P t = some z) (hx : Ev n σ True x (.pointer (some ⟨b, o, none⟩))) (hy : Ev n σ True y u)
  (hu : u.cells = vs.toArray) (hz : vs.length = z) (hB : Blk w b e l) (hfit : Nat.ble (o + vs.length) l.length = true) (h1 : onesB vs = true)
  (h : ∀ w1, w.grownBy w1 (some b) → w1.heap.size = w.heap.size → Blk w1 b e (l.take o ++ vs ++ l.drop (o + vs.length)) → SR P Z ops cl lv W0 n K (k + 1) rest σ w1) :
  SR P Z ops cl lv W0 n K k (⟨none, .store t x y, ty, pos, after, none⟩ :: rest) σ w := by
 obtain ⟨w1, r1, r2, r3, r4⟩ := Xeb (P := P) vs o 0 l w hB (by have := Nat.le_of_ble_eq_true hfit; omega) (ones_of h1)
 refine sr_skip hb (w' := w1) (fun d pos after g a ha _ => ?_) (h w1 r3 r4 (by simpa using r2))
 unfold tySize at hs
 obtain ⟨i, hi, hi2⟩ := Option.map_eq_some_iff.1 hs
 have hsz : (sizeOf t).run P w = .ok vs.length w := by simp [sizeOf, typeInfo, hi, hi2, hz]
 simp [execOp, hx a ha trivial, hy a ha trivial, Instr.storeAt, Instr.sureAddr, storeVar, hsz, hu, r1]

theorem Yu {t : TypeId} {x y : Operand} {b z : Nat} {e : TypeId} {u : Value} {l vs : List Value} (hb : Nat.beq (clOf cl k) 2 = true) (hs : tySize P t = some z) (hx : Ev n σ True x (.pointer (some ⟨b, 0, none⟩))) (hy : Ev n σ True y u)
  (hu : u.cells = vs.toArray) (hz : vs.length = z) (hB : Blk w b e l) (hfit : Nat.beq vs.length l.length = true) (h1 : onesB vs = true)
  (h : ∀ w1, w.grownBy w1 (some b) → w1.heap.size = w.heap.size → Blk w1 b e vs → SR P Z ops cl lv W0 n K (k + 1) rest σ w1) :
  SR P Z ops cl lv W0 n K k (⟨none, .store t x y, ty, pos, after, none⟩ :: rest) σ w := by
 have hf := Nat.eq_of_beq_eq_true hfit
 refine Us hb hs hx hy hu hz hB (by rw [Nat.zero_add, hf]; exact Nat.ble_self_eq_true _) h1 fun w1 h2 h3 h4 => h w1 h2 h3 ?_
 rw [Nat.zero_add, hf, List.drop_length, List.take_zero, List.nil_append, List.append_nil] at h4
 exact h4
theorem Jg {t : TypeId} {x y : Operand} {b o : Nat} {e : TypeId} {u v : Value} {l : List Value} (hb : Nat.beq (clOf cl k) 2 = true) (hs : tySize P t = some 1) (hx : Ev n σ True x (.pointer (some ⟨b, o, none⟩))) (hy : Ev n σ True y u)
  (hu : u.cells = #[v]) (hB : Blk w b e l) (hfit : Nat.blt o l.length = true) (h1 : v.oneCell' = true)
  (h : ∀ w1, w.grownBy w1 (some b) → w1.heap.size = w.heap.size → Blk w1 b e (l.set o v) → SR P Z ops cl lv W0 n K (k + 1) rest σ w1) :
  SR P Z ops cl lv W0 n K k (⟨none, .store t x y, ty, pos, after, none⟩ :: rest) σ w := by
 have hf : o < l.length := Nat.le_of_ble_eq_true hfit
 refine Us (vs := [v]) hb hs hx hy hu rfl hB (Nat.ble_eq ▸ hf) (by simp [onesB, h1]) fun w1 h2 h3 h4 => h w1 h2 h3 ?_
 have e1 : l.set o v = l.take o ++ [v] ++ l.drop (o + [v].length) := by
  rw [List.set_eq_take_append_cons_drop, if_pos hf]; simp
 rw [e1]; exact h4

theorem Jt {t e z by_ base m q q' : Nat} {x y : Operand} {s zv : Value} {xs news : List Value} {b' o' : Nat} (hb : (Nat.beq (clOf cl k) 2 && Nat.blt d n) = true) (ht : tyElem P t = some (e, z, by_)) (hzv : zeroOf P e = some zv)
  (hzs : zv.cells.size = z) (hz0 : 0 < z) (hx : Ev n σ True x s) (hown : w.ownsRow base e z s m xs) (hy : Ev n σ True y (.slice (some ⟨b', o', none⟩) q q')) (hl : news.length = q * z) (hn : RowAt w b' o' news) (h1 : onesB news = true)
  (h63 : m + q ≤ maxLen) (hby : (m + q) * by_ ≤ 140737488355328) (hbase : base ≤ w.heap.size)
  (h : ∀ a' c' w', w'.ownsRow base e z (.slice a' (m + q) c') (m + q) (xs ++ news) → w.grownBy w' s.ownBlock → ((Value.slice a' (m + q) c').ownBlock = s.ownBlock ∨ (Value.slice a' (m + q) c').ownBlock = some w.heap.size) → SR P Z ops cl lv W0 n K (k + 1) rest ((d, True, .slice a' (m + q) c') :: σ) w') :
  SR P Z ops cl lv W0 n K k (⟨some d, .call { callee := .builtin .append, args := #[x, y], argTypes := #[t, t] }, ty, pos, after, none⟩ :: rest) σ w := by
 obtain ⟨hu, i, hi, hsz, hbyi⟩ := Uh ht
 obtain ⟨i', hi', hz'⟩ := Xka hzv
 obtain rfl : i = i' := Option.some.inj (hi.symm.trans hi')
 simp only [Bool.and_eq_true] at hb
 have hc := Nat.eq_of_beq_eq_true hb.1
 obtain ⟨s', w', r1, r2, r3, _, r5⟩ := run_append_own_at (P := P) w base t ty e i zv z by_ hu hi hz' hsz hbyi hzs hz0 s m xs hown ⟨b', o', none⟩ q q' news hl (fun j u hj => by rw [Addr.add_lit]; exact hn j u hj) (ones_of h1) h63 hby hbase
 obtain ⟨a', c', hs'⟩ : ∃ a' c', s' = .slice a' (m + q) c' := by
  rcases r2.2 with ⟨q1, q2⟩ | ⟨g, cap, cur, q1, _⟩
  ·exact ⟨none, 0, by rw [q1, q2]⟩
  ·exact ⟨_, cap, q1⟩
 subst hs'
 refine Jnb (w' := w') (by rw [hc, hb.2]; rfl) (fun d pos after g a ha _ => ?_) (fun hh => by omega) (h a' c' w' r2 r3 r5)
 simp only [execOp, resolve, invoke, builtin, Sem.run_bind, Sem.run_pure, Result.andThen_ok, List.map_toArray, List.map_cons, List.map_nil, hx a ha trivial, hy a ha trivial, r1]
end

/-! ## Code -/
def Qof (N : Act → World → Prop) (X : List (Nat × (Act → World → Prop))) (T : Act → World → Prop) : Exit → Act → World → Prop
 | .normal, a, w => N a w
 | .ret, a, w => T a w
 | .exit id, a, w => match X.lookup id with | some k => k a w | none => False
 | _, _, _ => False

def SC (P : Program) (n : Nat) (c : Code) (N : Act → World → Prop) (X : List (Nat × (Act → World → Prop))) (T : Act → World → Prop) (σ : List Ent) (w : World) : Prop := ∀ a, Kn n σ a → c.wp P (Qof N X T) a w

section
variable {P : Program} {n : Nat} {N T : Act → World → Prop} {X : List (Nat × (Act → World → Prop))} {σ : List Ent} {w : World}

theorem Yi {c : Code} (τ : List Ent) (hs : Sub τ σ) (h : SC P n c N X T τ w) : SC P n c N X T σ w := fun a ha => h a (ha.sub hs)
theorem Zg {x y : Code} (h : ∀ K : Act → World → Prop, (∀ τ u, SC P n y N X T τ u → ∀ a, Kn n τ a → K a u) → SC P n x K X T σ w) : SC P n (.seq x y) N X T σ w := fun a ha => by
 refine wp_seq (Code.wp_mono (fun e a w q => ?_) (h (fun a w => y.wp P (Qof N X T) a w) (fun τ u hy a ha => hy a ha) a ha))
 cases e <;> exact q
theorem Yq (h : ∀ a, Kn n σ a → N a w) : SC P n .skip N X T σ w := fun a ha => wp_skip (h a ha)
theorem Yf (h : ∀ a, Kn n σ a → T a w) : SC P n .ret N X T σ w := fun a ha => wp_ret (h a ha)
theorem Wa {id : Nat} {k : Act → World → Prop} (hk : X.lookup id = some k) (h : ∀ a, Kn n σ a → k a w) : SC P n (.exit id) N X T σ w := fun a ha => wp_exit (by
 show match X.lookup id with | some k => k a w | none => False
 rw [hk]; exact h a ha)
theorem Yp {id : Nat} {c : Code} (h : SC P n c N ((id, N) :: X) T σ w) : SC P n (.block id c) N X T σ w := fun a ha => by
 refine wp_block (Code.wp_mono (fun e a w q => ?_) (h a ha))
 cases e with
 | exit id' =>
  simp only [Exit.inBlock]
  by_cases he : id' = id
  ·subst he
   rw [if_pos rfl]
   simpa [Qof, List.lookup] using q
  ·rw [if_neg he]
   simp only [Qof] at q ⊢
   rw [List.lookup_cons] at q
   have : (id' == id) = false := by simpa using he
   rw [this] at q
   exact q
 | _ => exact q
theorem Zz {x : Operand} {b : Bool} {p q : Code} (hx : Ev n σ True x (.bool b)) (h1 : b = true → SC P n p N X T σ w) (h2 : b = false → SC P n q N X T σ w) : SC P n (.cond x p q) N X T σ w := fun a ha =>
 wp_cond_split (hx a ha trivial) (fun h => h1 h a ha) (fun h => h2 h a ha)
theorem sc_false {x : Operand} {p q : Code} (hx : Ev n σ True x (.bool false)) (h1 : SC P n q N X T σ w) : SC P n (.cond x p q) N X T σ w := Zz hx (fun h => by cases h) (fun _ => h1)
theorem Yk {t : Nat} {g : Bool} {y : Code} {b0 : Bool} (τ : List Ent) (hs : Sub ((t, True, .bool g) :: τ) σ) (hx : look σ t = some (True, .bool g))
  (hy : g = false → SC P n y (fun a w' => Kn n ((t, True, .bool b0) :: τ) a ∧ w' = w) X T σ w) (hN : ∀ a, Kn n ((t, True, .bool (g || b0)) :: τ) a → N a w) :
  SC P n (.cond (.tmp t) .skip y) N X T σ w := by
 refine Zz (Zb hx) (fun hg => ?_) (fun hg => ?_)
 ·subst hg
  exact Yq fun a ha => hN a (by simpa using ha.sub hs)
 ·intro a ha
  refine Code.wp_mono (fun e a' w' q => ?_) (hy hg a ha)
  cases e with
  | normal => obtain ⟨q1, rfl⟩ := q; subst hg; exact hN a' (by simpa using q1)
  | _ => exact q
theorem Zf {id : Nat} {l : List Oper} (cl : List Nat) (h : SR P NoP l cl [] w n N 0 l σ w) : SC P n (.region id l.toArray false) N X T σ w := fun a ha => by
 have h1 := h (fun j o ho => by simpa using ho) a ha
 have e : lvOf [] = fun _ => true := by funext i; simp [lvOf]
 rw [e] at h1
 have h2 : RS P NoP l.toArray (clOf cl) (fun _ => true) w (fun a w => (Qof N X T) .normal a w) (List.range l.toArray.size) a w := by
  rw [List.range_eq_range']; simpa [Qof] using h1
 exact wp_text h2
theorem Vm {id : Nat} {l : List Oper} (cl : List Nat) (lv : List Bool) (ms : List Nat) (hm : P.follows .mixedOrders = true) (hok : okB l cl lv ms = true)
  (h : SR P NoP l cl lv w.drew n N 0 l σ w.drew) : SC P n (.region id l.toArray true) N X T σ w := fun a ha => by
 have h1 := h (fun j o ho => by simpa using ho) a ha
 have h2 : RS P NoP l.toArray (clOf cl) (lvOf lv) w.drew (fun a w => (Qof N X T) .normal a w) (List.range l.toArray.size) a w.drew := by
  rw [List.range_eq_range']; simpa [Qof] using h1
 exact wp_draw (okay_of hok) hm h2

theorem Zba {c : Code} {α : Type} (I : α → World → Prop) (σf : α → List Ent) (μ : α → Nat) (x0 : α) (h0 : I x0 w) (hs : Sub (σf x0) σ)
  (round : ∀ x w, I x w → SC P n c (fun a' w' => ∃ y, Kn n (σf y) a' ∧ I y w' ∧ μ y < μ x) X T (σf x) w) : SC P n (.loop c) N X T σ w := fun a ha => by
 intro b k cs
 have key : ∀ m x a w, μ x = m → Kn n (σf x) a → I x w →
   ∃ e a' w', Qof N X T e a' w' ∧ Arrives P (lone (b.at a (.code c :: .inLoop c :: k)) cs w) b k cs e a' w' := by
  intro m
  induction m using Nat.strongRecOn with
  | _ m ih =>
   intro x a w hm hk hI
   obtain ⟨e, a₁, w₁, hq, harr⟩ := round x w hI a hk b (.inLoop c :: k) cs
   cases e with
   | normal =>
    obtain ⟨y, hk1, hI1, hlt⟩ := hq
    obtain ⟨e₂, a₂, w₂, hq₂, harr₂⟩ := ih (μ y) (hm ▸ hlt) y a₁ w₁ rfl hk1 hI1
    exact ⟨e₂, a₂, w₂, hq₂, .of_steps (Steps.trans harr (.one step_inLoop)) harr₂⟩
   | exit id => exact ⟨.exit id, a₁, w₁, hq, .pass (x := .inLoop c) rfl (fun _ _ => .inl (by simp)) harr⟩
   | goto l => exact hq.elim
   | ret => exact ⟨.ret, a₁, w₁, hq, .pass (x := .inLoop c) rfl (fun _ _ => .inl (by simp)) harr⟩
   | panic ch => exact hq.elim
   | outgrown => exact hq.elim
 obtain ⟨e, a', w', hq, harr⟩ := key _ x0 a w rfl (ha.sub hs) h0
 exact ⟨e, a', w', hq, .of_steps (.one step_loop) harr⟩

theorem Wv {c : Code} {α : Type} (I : α → World → Prop) (σc : List Ent) (σf : α → List Ent) (μ : α → Nat) (x0 : α) (h0 : I x0 w) (hs : Sub (σf x0 ++ σc) σ)
  (round : ∀ x w, I x w → SC P n c (fun a' w' => ∃ y, Kn n (σf y ++ σc) a' ∧ I y w' ∧ μ y < μ x) X T (σf x ++ σc) w) : SC P n (.loop c) N X T σ w :=
 Zba I (fun x => σf x ++ σc) μ x0 h0 hs round

/-! ends of a function -/
theorem Xs {fn : Func} {R : Value → World → Prop} (hr : fn.results = #[]) (h : R (.tuple #[]) w) : ∀ a, Kn n σ a → bodyPost P fn (fun e w' => ∃ v, e = .returned v ∧ R v w') .normal a w := fun a ha =>
 bodyPost_end (results_none hr _ _ _) ha.2.1 ⟨_, rfl, h⟩
theorem Yj {fn : Func} {R : Value → World → Prop} {t : Nat} {v : Value} (hr : fn.results = #[.tmp t]) (hl : look σ t = some (True, v)) (h : R v w) : ∀ a, Kn n σ a → bodyPost P fn (fun e w' => ∃ v, e = .returned v ∧ R v w') .ret a w := fun a ha =>
 bodyPost_ret (results_tmp hr _ _ _) ha.2.1 ⟨_, rfl, by have := ha.at_ hl trivial; simp [this]; exact h⟩
def resOf (us : List Value) : Value := if h : us.toArray.size = 1 then us.toArray[0] else .tuple us.toArray
theorem Zsa {fn : Func} {R : Value → World → Prop} {ts : List Nat} {vs : List Value} (hr : fn.results = (ts.map ResultVar.tmp).toArray) (h2 : Nat.beq ts.length 1 = false) (hl : ts.map (look σ) = vs.map (fun v => some (True, v))) (h : R (.tuple vs.toArray) w) :
  ∀ a, Kn n σ a → bodyPost P fn (fun e w' => ∃ v, e = .returned v ∧ R v w') .ret a w := fun a ha => by
 refine bodyPost_ret (v := .tuple vs.toArray) ?_ ha.2.1 ⟨_, rfl, h⟩
 have hvs : ∀ (ts : List Nat) (vs : List Value), ts.map (look σ) = vs.map (fun v => some (True, v)) → ts.map (fun t => a.tmps.getD t undef) = vs := by
  intro ts
  induction ts with
  | nil => intro vs h; cases vs with
   | nil => rfl
   | cons => simp at h
  | cons t ts ih =>
   intro vs h
   cases vs with
   | nil => simp at h
   | cons v vs =>
    simp only [List.map_cons, List.cons.injEq] at h
    have := ha.at_ h.1 trivial
    rw [List.map_cons, ih vs h.2]
    simp [this]
 have hrun : ∀ (ts : List Nat), (ts.mapM (fun t => (pure (a.tmps.getD t undef) : Sem Value))).run P w = .ok (ts.map fun t => a.tmps.getD t undef) w := by
  intro ts
  induction ts with
  | nil => rfl
  | cons t ts ih =>
   rw [List.mapM_cons]
   simp only [Sem.run_bind, Sem.run_pure, Result.andThen_ok] at ih ⊢
   rw [ih]; rfl
 have hres : (results fn a.tmps).run P w = .ok (resOf (ts.map fun t => a.tmps.getD t undef)) w := by
  unfold results
  rw [hr, Array.mapM_eq_mapM_toList]
  simp only [Sem.run_bind, Sem.run_map, List.mapM_map]
  have := hrun ts
  simp only [Function.comp_def]
  rw [this]
  rfl
 rw [hres, hvs ts vs hl]
 have hlen : vs.length = ts.length := by have := congrArg List.length hl; simpa using this.symm
 unfold resOf
 rw [dif_neg (by simp only [List.size_toArray, hlen]; intro he; rw [he] at h2; simp at h2)]

def argsK : Nat → List Value → List Ent
 | _, [] => []
 | k, v :: vs => (k, True, v) :: argsK (k + 1) vs
theorem Uha : ∀ (vs : List Value) (k t : Nat) (c : Prop) (v : Value), look (argsK k vs) t = some (c, v) → c = True ∧ k ≤ t ∧ vs[t - k]? = some v
 | [], _, _, _, _, h => by simp [argsK, look] at h
 | u :: vs, k, t, c, v, h => by
  unfold argsK look at h
  cases hq : Nat.beq k t with
  | true =>
   rw [hq] at h
   obtain rfl := Nat.eq_of_beq_eq_true hq
   simp only [cond_true] at h
   injection h with h
   injection h with e1 e2
   subst e2
   exact ⟨e1.symm, Nat.le_refl _, by simp⟩
  | false =>
   rw [hq] at h
   obtain ⟨h1, h2, h3⟩ := Uha vs (k + 1) t c v h
   refine ⟨h1, by omega, ?_⟩
   rw [show t - k = (t - (k + 1)) + 1 by omega]
   simpa using h3
theorem Ym {f : FuncId} {fn : Func} {c : Code} {args : List Value} {R : Value → World → Prop} {m : Nat} (hf : P.funcs[f]? = some fn) (hb : fn.body = some c) (hm : args.length + (fn.ntmps - args.length) = m)
  (σ0 : List Ent) (hs : Sub σ0 (argsK 0 args))
  (hh : SC P m c (fun a w => bodyPost P fn (fun e w' => ∃ v, e = .returned v ∧ R v w') .normal a w) [] (fun a w => bodyPost P fn (fun e w' => ∃ v, e = .returned v ∧ R v w') .ret a w)
   σ0 w) : Ret P f args.toArray w R := by
 unfold Ret
 refine calls_of_wp hf hb (Code.wp_mono (fun e a w q => ?_) (hh _ (Kn.sub (σ := argsK 0 args) ?_ hs)))
 ·cases e with
  | normal => exact q
  | ret => exact q
  | _ => exact q.elim
 ·refine ⟨by simp [← hm], rfl, fun t c' v hl => ?_⟩
  obtain ⟨rfl, _, h3⟩ := Uha args 0 t c' v hl
  refine ⟨fun _ => ?_, fun hn => absurd trivial hn⟩
  rw [Nat.sub_zero] at h3
  have hlt : t < args.length := (List.getElem?_eq_some_iff.1 h3).1
  simp [Array.getElem?_append, hlt, h3]
  simpa [hlt] using h3
end
end Go.Rk
namespace Go.Rk
open Go Go.RowKit
section
variable {w w' : World} {base : Nat} {e : TypeId} {z : Nat} {v : Value} {m : Nat} {xs : List Value}
theorem own_sl (h : w.ownsRow base e z v m xs) : ∃ a c, v = .slice a m c ∧ m ≤ c := by
 rcases h.2 with ⟨h1, h2⟩ | ⟨g, cap, cur, h1, _, _, h4, _⟩
 ·subst h2; exact ⟨none, 0, h1, Nat.le_refl _⟩
 ·exact ⟨_, cap, h1, h4⟩
theorem own_at (h : w.ownsRow base e z v m xs) {b o c : Nat} {k : Nat} (hv : v = .slice (some ⟨b, o, none⟩) k c) : RowAt w b o xs ∧ o = 0 ∧ base ≤ b := by
 rcases h.2 with ⟨h1, h2⟩ | ⟨g, cap, cur, h1, h2, h3, h4, h5, h6, h7⟩
 ·rw [h1] at hv; injection hv with hv; cases hv
 ·rw [h1] at hv
  injection hv with hv _ _
  injection hv with hv
  injection hv with e1 e2 _
  subst e1
  subst e2
  refine ⟨fun j u hj => ?_, rfl, h2⟩
  have := h.cells (g := g) (by rw [h1]; rfl) j u hj
  rwa [Addr.add_lit] at this
theorem Qyb (h : w.ownsRow base e z v m xs) (hm : 0 < m) : ∃ b c, v = .slice (some ⟨b, 0, none⟩) m c ∧ m ≤ c ∧ RowAt w b 0 xs ∧ base ≤ b := by
 rcases h.2 with ⟨_, h2⟩ | ⟨g, cap, cur, h1, h2, h3, h4, h5, h6, h7⟩
 ·omega
 ·obtain ⟨q1, _, q3⟩ := own_at h h1
  exact ⟨g, cap, h1, h4, q1, q3⟩
theorem Vx {row : Option Nat} (h : w.ownsRow base e z v m xs) (hg : w.grownBy w' row) (hne : v.ownBlock = none ∨ v.ownBlock ≠ row) : w'.ownsRow base e z v m xs := h.kept hg hne
theorem Zca (h : w.ownsRow base e z v m xs) (hg : G w w') : w'.ownsRow base e z v m xs := h.kept (hg.only none) (by cases hv : v.ownBlock <;> simp)
theorem own_drew (h : w.ownsRow base e z v m xs) : w.drew.ownsRow base e z v m xs := h
theorem Qq (w : World) (base : Nat) (e : TypeId) (z : Nat) : w.ownsRow base e z (.slice none 0 0) 0 [] := World.ownsRow_nil w base e z
theorem Ug (h : G w w') (hb : base ≤ w.heap.size) : Below base w w' := Below.mono h hb
theorem Vd {a : World} {row : Option Nat} (h : Below base a w) (hg : w.grownBy w' row) (hb : base ≤ w.heap.size) (hr : ∀ k, row = some k → base ≤ k) : Below base a w' := h.grown hg hb hr
theorem Xo {a : World} {row : Option Nat} (h : G a w) (hg : w.grownBy w' row) (hr : ∀ k, row = some k → a.heap.size ≤ k) : G a w' := Below.grown h hg h.size hr
theorem own_ne (h : w.ownsRow base e z v m xs) {b : Nat} (hb : w.heap.size ≤ b) : v.ownBlock ≠ some b := fun hv => by
 have := (h.lt b hv).2; omega
end
end Go.Rk
namespace Go.Rk
open Go Go.RowKit
set_option linter.unusedVariables false
section
variable {P : Program} {n : Nat} {σ : List Ent} {c : Prop} {wb : World} {ty : TypeId} {v : Value}

/-! structs of plain cells, compared -/
def flatKind (P : Program) (t : TypeId) : Option Nat := match P.underlying t with
 | some (.int _) => some 0
 | some .string => some 1
 | some .bool => some 2
 | _ => none
def flatFs (P : Program) : Nat → List Field → Option (List Nat)
 | _, [] => some []
 | k, f :: fs => if Nat.beq f.offset k && f.name != "_" then match flatKind P f.type, flatFs P (k + 1) fs with
   | some a, some l => some (a :: l)
   | _, _ => none
  else none
def tyFlat (P : Program) (t : TypeId) : Option (List Nat) := match P.underlying t with
 | some (.struct fs) => if P.stoodInHeld t = false ∧ P.eqGuardType P.depth t = false then flatFs P 0 fs.toList else none
 | _ => none
def eqL : List Nat → List Value → List Value → Option Bool
 | [], [], [] => some true
 | 0 :: ks, .int k a :: l, .int k' b :: l' => if k = k' then match eqL ks l l' with | some r => some (decide (a = b) && r) | none => none else none
 | 1 :: ks, .string a :: l, .string b :: l' => match eqL ks l l' with | some r => some (decide (a.data.toList = b.data.toList) && r) | none => none
 | 2 :: ks, .bool a :: l, .bool b :: l' => match eqL ks l l' with | some r => some (a == b && r) | none => none
 | _, _, _ => none
theorem part_one {t : TypeId} (ht : tyOne P t = true) {cs : Array Value} {o : Nat} {v : Value} (hv : cs[o]? = some v) (w : World) : (part t cs o).run P w = .ok v w := by
 have : (isAgg t).run P w = .ok false w := by
  unfold tyOne at ht
  split at ht <;> try (cases ht; done)
  rename_i d hd1 hd2 hd
  simp only [isAgg, Sem.run_bind, run_underlying hd, Result.andThen_ok]
  cases d <;> simp_all
 simp [part, this, hv]
/-! an array's element, by value -/
def tyArr1 (P : Program) (t : TypeId) : Option Nat := match P.underlying t with
 | some (.array m e) => if tyOne P e = true ∧ tySize P e = some 1 then some m else none
 | _ => none
theorem rd_aidx {t m : Nat} {x y : Operand} {cs : Array Value} {k : IntKind} {i : Int} {v : Value} (ht : tyArr1 P t = some m) (h : Ev n σ c x (.agg cs)) (h' : Ev n σ c y (.int k i)) (hi : c → 0 ≤ i ∧ i < m) (hv : c → cs[i.toNat]? = some v) :
  Rd P n σ c wb (.index t x y) ty v := fun d pos after gd a ha hc w1 _ => by
 obtain ⟨h0, h1⟩ := hi hc
 unfold tyArr1 at ht
 split at ht
 ·rename_i m' e hu
  split at ht
  ·rename_i hk
   injection ht with ht; subst ht
   obtain ⟨ho, hz⟩ := hk
   unfold tySize at hz
   cases hi2 : P.info? e with
   | none => rw [hi2] at hz; cases hz
   | some inf =>
    rw [hi2] at hz; injection hz with hz
    have hs : (sizeOf e).run P w1 = .ok 1 w1 := by
     have := hz; simp [sizeOf, typeInfo, run_program, hi2, hz]
    simp [execOp, h a ha hc, h' a ha hc, Instr.index, asIntOf, run_underlying hu, h0, h1, hs, part_one ho (hv hc)]
  ·cases ht
 ·cases ht

/-! nil -/
def nilV : Value → Bool
 | .nilIface => true
 | _ => false
theorem rd_ine {t u : TypeId} {x : Operand} {e : Value} (ht : P.isIface t = true) (h : Ev n σ c x e) (he : e = .nilIface ∨ ∃ a b, e = .iface a b) : Rd P n σ c wb (.binOp .neq t x (.const .nilIface) u) ty (.bool (!nilV e)) := fun d pos after gd a ha hc w1 _ => by
 rcases he with rfl | ⟨t1, u1, rfl⟩
 ·simp [execOp, h a ha hc, Zra, eqGuard, binOp, Op.equal, Op.maxDepth, run_equalIn_nil_nil_at w1 9999 t ht, nilV]
 ·simp [execOp, h a ha hc, Zra, eqGuard, binOp, Op.equal, Op.maxDepth, run_equalIn_iface_nil w1 9999 t ht, nilV]
def tyPtr (P : Program) (t : TypeId) : Bool := match P.underlying t with | some (.pointer _) => true | _ => false
theorem Qra {t : TypeId} (h : tyPtr P t = true) : ∃ e, P.underlying t = some (.pointer e) := by
 unfold tyPtr at h
 split at h
 ·rename_i e he; exact ⟨e, he⟩
 ·cases h
theorem eq_ptr {t e : TypeId} (he : P.underlying t = some (.pointer e)) (o : Option Addr) (d : Nat) (w : World) : (Op.equalIn (d + 1) t (.pointer o) (.pointer none)).run P w = .ok o.isNone w := by
 cases o <;> simp [Op.equalIn, run_underlying he]
theorem rd_peq {t u : TypeId} {x : Operand} {o : Option Addr} (ht : tyPtr P t = true) (h : Ev n σ c x (.pointer o)) : Rd P n σ c wb (.binOp .eql t x (.const (.pointer none)) u) ty (.bool o.isNone) := fun d pos after gd a ha hc w1 _ => by
 obtain ⟨e, he⟩ := Qra ht
 simp [execOp, h a ha hc, Zra, eqGuard_at_pointer, binOp, Op.equal, Op.maxDepth, eq_ptr he o 9999 w1]
/-! slices of slices -/
theorem run_size {e : TypeId} {i : TypeInfo} (hi : P.info? e = some i) (w : World) : (sizeOf e).run P w = .ok i.size w := by simp [sizeOf, typeInfo, run_program, hi]
theorem rd_sl_from {t e z by_ : Nat} {x y : Operand} {b off : Nat} {m q : Nat} {k : IntKind} {i : Int} (ht : tyElem P t = some (e, z, by_)) (h : Ev n σ c x (.slice (some ⟨b, off, none⟩) m q)) (h' : Ev n σ c y (.int k i)) (hi : c → 0 ≤ i ∧ i ≤ m) :
  Rd P n σ c wb (.slice t x (some y) none none) ty (.slice (some ⟨b, if q = i.toNat then off else off + i.toNat * z, none⟩) (m - i.toNat) (q - i.toNat)) := fun d pos after gd a ha hc w1 _ => by
 obtain ⟨hu, inf, hin, hz, _⟩ := Uh ht
 have e1 := hi hc
 simp only [execOp, h a ha hc, h' a ha hc, Instr.sliceAt, Option.map_some, Option.map_none, Sem.run_bind, run_underlying hu, Result.andThen_ok]
 simp [Instr.slice, run_underlying hu, Instr.sliceBounds, Instr.sliceBound, asIntOf, e1, run_size hin, hz]
 split <;> simp [Addr.add]
theorem Qzb {f : FuncId} {fs cs : Array Operand} {vs us : List Value} (h : Qqa n σ c fs.toList vs) (h' : Qqa n σ c cs.toList us) : Rd P n σ c wb (.makeFunc (.func f) fs cs) ty (.func (.func f) vs.toArray us.toArray) := fun d pos after gd a ha hc w1 _ => by
 have e1 := h a ha hc
 have e2 := h' a ha hc
 have e3 : fs.map a.eval = vs.toArray := by rw [← e1, ← Array.toList_map, Array.toArray_toList]
 have e4 : cs.map a.eval = us.toArray := by rw [← e2, ← Array.toList_map, Array.toArray_toList]
 simp [execOp, Instr.makeFunc, e3, e4]
def tyConc (P : Program) (t : TypeId) : Bool := match P.underlying t with | some (.interface _) => false | some _ => true | none => false
/-! numbers of other sizes -/
def Xfb (P : Program) (t : TypeId) : Option IntKind := match P.underlying t with | some (.int k) => some k | _ => none
theorem Qsa {t : TypeId} {k : IntKind} (h : Xfb P t = some k) : P.underlying t = some (.int k) := by
 unfold Xfb at h
 split at h
 ·rename_i k' hk; injection h with h; subst h; exact hk
 ·cases h
theorem rd_conv {s t : TypeId} {x : Operand} {k k1 k2 : IntKind} {i : Int} (hs : Xfb P s = some k1) (ht : Xfb P t = some k2) (h : Ev n σ c x (.int k i)) : Rd P n σ c wb (.convert s t x) ty (.int k2 (k2.wrap i)) := fun d pos after gd a ha hc w1 _ => by
 simp [execOp, h a ha hc, convert, run_underlying (Qsa hs), run_underlying (Qsa ht), Conv.intToInt]
theorem rd_convr {s t : TypeId} {x : Operand} {k k1 k2 : IntKind} {i r : Int} (hs : Xfb P s = some k1) (ht : Xfb P t = some k2) (h : Ev n σ c x (.int k i)) (hr : c → k2.wrap i = r) : Rd P n σ c wb (.convert s t x) ty (.int k2 r) := fun d pos after gd a ha hc w1 hg => by
 have := rd_conv (wb := wb) (ty := ty) hs ht h d pos after gd a ha hc w1 hg
 rw [hr hc] at this; exact this
theorem rd_addr {t u : TypeId} {x y : Operand} {k : IntKind} {i j r : Int} (h : Ev n σ c x (.int k i)) (h' : Ev n σ c y (.int k j)) (hr : c → k.wrap (i + j) = r) : Rd P n σ c wb (.binOp .add t x y u) ty (.int k r) := fun d pos after gd a ha hc w1 hg => by
 have := rd_addw (P := P) (t := t) (u := u) (wb := wb) (ty := ty) h h' d pos after gd a ha hc w1 hg
 rw [hr hc] at this; exact this
theorem Jab {t u : TypeId} {x y : Operand} {k : IntKind} {i j r : Int} (h : Ev n σ c x (.int k i)) (h' : Ev n σ c y (.int k j)) (hr : c → k.wrap (i - j) = r) : Rd P n σ c wb (.binOp .sub t x y u) ty (.int k r) := fun d pos after gd a ha hc w1 hg => by
 have := rd_subw (P := P) (t := t) (u := u) (wb := wb) (ty := ty) h h' d pos after gd a ha hc w1 hg
 rw [hr hc] at this; exact this
theorem rd_mulr {t u : TypeId} {x y : Operand} {k : IntKind} {i j r : Int} (h : Ev n σ c x (.int k i)) (h' : Ev n σ c y (.int k j)) (hr : c → k.wrap (i * j) = r) : Rd P n σ c wb (.binOp .mul t x y u) ty (.int k r) := fun d pos after gd a ha hc w1 hg => by
 have := rd_mulw (P := P) (t := t) (u := u) (wb := wb) (ty := ty) h h' d pos after gd a ha hc w1 hg
 rw [hr hc] at this; exact this
theorem u64_id {x : Int} (h : 0 ≤ x ∧ x ≤ 18446744073709551615) : IntKind.u64.wrap x = x := by
 have : x % 18446744073709551616 = x := Int.emod_eq_of_lt h.1 (by omega)
 simpa [IntKind.wrap, IntKind.bits, IntKind.signed] using this
theorem u8_id {x : Int} (h : 0 ≤ x ∧ x ≤ 255) : IntKind.u8.wrap x = x := by
 have : x % 256 = x := Int.emod_eq_of_lt h.1 (by omega)
 simpa [IntKind.wrap, IntKind.bits, IntKind.signed] using this

/-! results that lie in cells -/
def rdRes (tmps : Array Value) : ResultVar → Sem Value
 | .tmp t => pure (tmps.getD t undef)
 | .cell a t => do loadVar t (← asAddr (tmps.getD a undef))
def EvR (P : Program) (n : Nat) (σ : List Ent) (w : World) (rs : List ResultVar) (vs : List Value) : Prop := ∀ a, Kn n σ a → (rs.mapM (rdRes a.tmps)).run P w = .ok vs w
theorem Qk {w : World} : EvR P n σ w [] [] := fun _ _ => rfl
theorem Jsb {w : World} {r : ResultVar} {rs : List ResultVar} {vs : List Value} (h : ∀ a, Kn n σ a → (rdRes a.tmps r).run P w = .ok v w) (k : EvR P n σ w rs vs) : EvR P n σ w (r :: rs) (v :: vs) := fun a ha => by
 have h1 := h a ha
 have h2 := k a ha
 rw [List.mapM_cons]
 simp only [Sem.run_bind, Sem.run_pure, h1, h2, Result.andThen_ok]
theorem Xgb {w : World} {t : Nat} {rs : List ResultVar} {vs : List Value} (h : look σ t = some (True, v)) (k : EvR P n σ w rs vs) : EvR P n σ w (.tmp t :: rs) (v :: vs) := Jsb (fun a ha => by
 have := ha.at_ h trivial
 simp [rdRes, this]) k
theorem Wma {w : World} {t b o z : Nat} {T : TypeId} {l : List Value} {rs : List ResultVar} {vs : List Value} (h : look σ t = some (True, .pointer (some ⟨b, o, none⟩))) (ht : tyAgg P T = some z) (hl : l.length = z) (hc : RowAt w b o l) (k : EvR P n σ w rs vs) : EvR P n σ w (.cell t T :: rs) (.agg l.toArray :: vs) := Jsb (fun a ha => by
 have := ha.at_ h trivial
 have h2 := Ubb ht hl hc
 simp [rdRes, this, asAddr, h2]) k
theorem evr_c1 {w : World} {t b o : Nat} {T : TypeId} {rs : List ResultVar} {vs : List Value} (h : look σ t = some (True, .pointer (some ⟨b, o, none⟩))) (ht : tyOne P T = true) (hc : w.cell? ⟨b, o, none⟩ = some v) (k : EvR P n σ w rs vs) : EvR P n σ w (.cell t T :: rs) (v :: vs) := Jsb (fun a ha => by
 have := ha.at_ h trivial
 have h2 := Uab ht hc
 simp [rdRes, this, asAddr, h2]) k
theorem Uia {fn : Func} {R : Value → World → Prop} {w : World} {rs : List ResultVar} {vs : List Value} (hr : fn.results = rs.toArray) (h2 : Nat.beq rs.length 1 = false) (hl : EvR P n σ w rs vs) (hlen : vs.length = rs.length) (h : R (.tuple vs.toArray) w) :
  ∀ a, Kn n σ a → bodyPost P fn (fun e w' => ∃ v, e = .returned v ∧ R v w') .ret a w := fun a ha => by
 refine bodyPost_ret (v := .tuple vs.toArray) ?_ ha.2.1 ⟨_, rfl, h⟩
 have h1 := hl a ha
 have hres : results fn a.tmps = (do let vs ← fn.results.mapM (rdRes a.tmps); pure (if h : vs.size = 1 then vs[0] else .tuple vs)) := by
  unfold results
  congr 1
 rw [hres, hr, Array.mapM_eq_mapM_toList]
 simp only [Sem.run_bind, Sem.run_map, h1, Result.andThen_ok]
 have hn : vs.length ≠ 1 := by rw [hlen]; intro he; rw [he] at h2; cases h2
 simp [hn]
theorem Zab {fn : Func} {R : Value → World → Prop} {w : World} {r : ResultVar} (hr : fn.results = #[r]) (hl : EvR P n σ w [r] [v]) (h : R v w) :
  ∀ a, Kn n σ a → bodyPost P fn (fun e w' => ∃ v, e = .returned v ∧ R v w') .ret a w := fun a ha => by
 refine bodyPost_ret (v := v) ?_ ha.2.1 ⟨_, rfl, h⟩
 have h1 := hl a ha
 have hres : results fn a.tmps = (do let vs ← fn.results.mapM (rdRes a.tmps); pure (if h : vs.size = 1 then vs[0] else .tuple vs)) := by
  unfold results
  congr 1
 rw [hres, hr, Array.mapM_eq_mapM_toList]
 simp only [Sem.run_bind, Sem.run_map, h1, Result.andThen_ok]
 simp
end
end Go.Rk
