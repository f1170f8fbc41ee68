/- Merged texts of one road: Eng, Sym, Run, Mem, More, EngT, Str, Enq, Nest, Facts, ScanA, ScanB. Conditions: each text's own. -/
import Derived.Orders
import Derived.Below
import Derived.LoopTactic
import Derived.CallsIn
import Derived.OrdersIn
import Derived.DefersIn
import Derived.RangeFuncRecord
import Derived.RangeFuncLeaves
import Derived.WalkKit
import Derived.WalkSpells
import Derived.WalkLawsBesides
import Derived.Maps.AppendAt
import Derived.Laws.StructEq
import Derived.Stop.IfaceNil
import Derived.Laws.Pointers
import Derived.Lib.Builder
import Derived.Lib.AppendStr
import Derived.Lib.UnsafeStr
import Derived.Laws.Externs
import Derived.Test.YtgfkioikloeaiaaGreatDoorProg
import Derived.KernelRfl
set_option linter.unusedSimpArgs false
set_option linter.unusedVariables false
namespace Go.Rk
open Go.Proofs
open Go Go.RowKit
theorem Zxg {α : Type} {x y : List α} : (x ++ y).length = x.length + y.length := List.length_append
theorem Zyg {α : Type} {a : α} {x : List α} : (a :: x).length = x.length + 1 := rfl
theorem Zzg {α : Type} : ([] : List α).length = 0 := rfl
theorem Yag {α : Type} {x : List α} {y : List (List α)} : (x :: y).flatten = x ++ y.flatten := rfl
theorem Ybg {α : Type} : ([] : List (List α)).flatten = [] := rfl
theorem Ycg {α : Type} (x : List α) : x ++ [] = x := List.append_nil x
theorem Ydg {α : Type} {a : α} {n : Nat} : (List.replicate n a).length = n := List.length_replicate
theorem J {α : Sort _} {a : α} : a = a := rfl
theorem Yeg {p : Prop} [Decidable p] (h : ¬ p) : decide p = false := decide_eq_false h
theorem Yfg {p : Prop} [Decidable p] (h : p) : decide p = true := decide_eq_true h
theorem Ygg {a b : Bool} (h : a = b) : Value.bool a = Value.bool b := congrArg Value.bool h

def G (w w' : World) : Prop := Below w.heap.size w w'
theorem G.refl (w : World) : G w w := Below.refl _ _
theorem G.trans {a b c : World} (h : G a b) (k : G b c) : G a c := Below.trans h (Below.mono k h.size)
theorem G.drew (w : World) : G w w.drew := ⟨rfl, rfl, rfl, Nat.le_refl _, fun _ _ => rfl⟩
theorem G.size {a b : World} (h : G a b) : a.heap.size ≤ b.heap.size := Below.size h
theorem G.block {a b : World} (h : G a b) {k : Nat} (hk : k < a.heap.size) : b.heap[k]? = a.heap[k]? := Below.block h k hk

def WF (ρ : Option Nat) : Fence := { Fence.wide with round := ρ }
@[reducible] def NoP : List PanicEntry → Act → World → Prop := fun _ _ _ => False

def Eff (P : Program) (Z : List PanicEntry → Act → World → Prop) (gr : Bool) (o : Oper) (a : Act) (w : World) (next : Act → World → Prop) : Prop :=
 (∃ v w', (execOp a.eval o).run P w = .ok (.value v) w' ∧ (gr = true → G w w') ∧ next (a.put o.dst v) w') ∨
 (∃ w', (execOp a.eval o).run P w = .ok .skip w' ∧ (gr = true → G w w') ∧ next (a.put o.dst undef) w') ∨
 (∃ f args, (execOp a.eval o).run P w = .ok (.enter f args) w ∧ Calls P f args w fun e w' => (∃ v, e = .returned v ∧ (gr = true → G w w') ∧ next (a.put o.dst v) w') ∨ (∃ ch, e = .panicked ch ∧ Z ch a w')) ∨
 (∃ l f tmps asg body, (execOp a.eval o).run P w = .ok (.round l f tmps asg body) w ∧ RoundIn Fence.wide 0 P l f tmps asg body w fun e w' => ∃ v, e = .returned v ∧ (gr = true → G w w') ∧ next (a.put o.dst v) w')

theorem Wne {P : Program} {ρ : Operand → Value} {o : Oper} {c : Call} (ho : o.op = .defer c) {w w' : World} {x : Next} (h : (execOp ρ o).run P w = .ok x w') : ∃ d, x = .defer d := by
 unfold execOp at h
 rw [ho] at h
 simp only [Sem.run_bind, Sem.run_pure] at h
 cases hr : (resolve ρ c o.type).run P w with
 | ok d w1 => rw [hr] at h; simp only [Result.andThen_ok] at h; injection h with h _; exact ⟨d, h.symm⟩
 | halt s w1 => rw [hr] at h; cases h
theorem Uua {P : Program} {ρ : Option Nat} {a : Act} {o : Oper} {w w' : World} {x : Next} (h : (execOp a.eval o).run P w = .ok x w') (hd : ∀ d, x ≠ .defer d) : Oper.semAt ρ a.eval o = execOp a.eval o :=
 Oper.semAt_eq _ _ _ fun c hc => by obtain ⟨d, e⟩ := Wne hc h; exact hd d e
theorem Jld {ρ : Option Nat} {n : Nat} {P : Program} {f : FuncId} {args : Array Value} {w : World} {R : Ending → World → Prop} (h : Calls P f args w R) : CallsIn (WF ρ) n P f args w R := callsIn_wide.2 h
theorem Eff.wpIn {P : Program} {Z : List PanicEntry → Act → World → Prop} {gr : Bool} {o : Oper} {a : Act} {w : World} {next : Act → World → Prop} {Q : Exit → Act → World → Prop} {ρ : Option Nat}
  (h : Eff P Z gr o a w next) (hZ : ∀ ch w', Z ch a w' → Q (.panic ch) a w') : o.wpIn (WF ρ) 0 P a w next Q := by
 refine ⟨fun _ _ => trivial, ?_⟩
 rcases h with ⟨v, w', hr, _, hn⟩ | ⟨w', hr, _, hn⟩ | ⟨f, args, hr, hc⟩ | ⟨l, f, tmps, asg, body, hr, hc⟩
 ·rw [Uua hr (fun d h => by cases h), hr]; exact hn
 ·rw [Uua hr (fun d h => by cases h), hr]; exact hn
 ·rw [Uua hr (fun d h => by cases h), hr]
  refine ⟨(fun h => by cases h), Jld (Calls.mono hc fun e w' h => ?_)⟩
  rcases h with ⟨v, rfl, _, hn⟩ | ⟨ch, rfl, hz⟩
  ·exact hn
  ·exact hZ ch w' hz
 ·rw [Uua hr (fun d h => by cases h), hr]
  refine ⟨(fun h => by cases h), (RoundIn.mono hc fun e w' h => ?_ : RoundIn Fence.wide 0 P l f tmps asg body w _)⟩
  obtain ⟨v, rfl, _, hn⟩ := h
  exact hn

theorem Eff.some {P : Program} {Z : List PanicEntry → Act → World → Prop} {gr : Bool} {o : Oper} {a : Act} {w : World} {next : Act → World → Prop} (hZ : ∀ ch a w, ¬ Z ch a w) (h : Eff P Z gr o a w next) :
  ∃ v w', (gr = true → G w w') ∧ next (a.put o.dst v) w' := by
 rcases h with ⟨v, w', _, hg, hn⟩ | ⟨w', _, hg, hn⟩ | ⟨f, args, _, hc⟩ | ⟨l, f, tmps, asg, body, _, hc⟩
 ·exact ⟨v, w', hg, hn⟩
 ·exact ⟨undef, w', hg, hn⟩
 ·obtain ⟨e, w', fr, h, _⟩ := hc []
  rcases h with ⟨v, _, hg, hn⟩ | ⟨ch, _, hz⟩
  ·exact ⟨v, w', hg, hn⟩
  ·exact absurd hz (hZ _ _ _)
 ·obtain ⟨e, w', ⟨v, _, hg, hn⟩, _⟩ := hc.2 default [] (room_wide _)
  exact ⟨v, w', hg, hn⟩

theorem Eff.turn {P : Program} {Z Z' : List PanicEntry → Act → World → Prop} {gr : Bool} {o : Oper} {a b : Act} {w : World} {next next' : Act → World → Prop} (he : execOp b.eval o = execOp a.eval o)
  (hz : ∀ ch w', Z ch a w' → Z' ch b w')
  (hn : ∀ v w', (gr = true → G w w') → next (a.put o.dst v) w' → next' (b.put o.dst v) w') (h : Eff P Z gr o a w next) : Eff P Z' gr o b w next' := by
 rcases h with ⟨v, w', hr, hg, h1⟩ | ⟨w', hr, hg, h1⟩ | ⟨f, args, hr, hc⟩ | ⟨l, f, tmps, asg, body, hr, hc⟩
 ·exact .inl ⟨v, w', by rw [he]; exact hr, hg, hn _ _ hg h1⟩
 ·exact .inr (.inl ⟨w', by rw [he]; exact hr, hg, hn _ _ hg h1⟩)
 ·refine .inr (.inr (.inl ⟨f, args, by rw [he]; exact hr, Calls.mono hc fun e w' h => ?_⟩))
  rcases h with ⟨v, e1, hg, h1⟩ | ⟨ch, e1, h1⟩
  ·exact .inl ⟨v, e1, hg, hn _ _ hg h1⟩
  ·exact .inr ⟨ch, e1, hz _ _ h1⟩
 ·refine .inr (.inr (.inr ⟨l, f, tmps, asg, body, by rw [he]; exact hr, RoundIn.mono hc fun e w' h => ?_⟩))
  obtain ⟨v, e1, hg, h1⟩ := h
  exact ⟨v, e1, hg, hn _ _ hg h1⟩

section
variable (P : Program) (Z : List PanicEntry → Act → World → Prop) (ops : Array Oper) (cl : Nat → Nat) (lv : Nat → Bool) (W0 : World) (K : Act → World → Prop)

def Gd (cl : Nat → Nat) (lv : Nat → Bool) (W0 : World) (i : Nat) (w w1 : World) : Prop := cl i = 3 ∨ G (if lv i = true then w else W0) w1

def RS : List Nat → Act → World → Prop
 | [], a, w => K a w
 | i :: rest, a, w =>
  ∃ o, ops[i]? = some o ∧
  if cl i = 0 ∨ cl i = 3 then
   ∃ v, (Region.wanted o (yielded ops a.tmps) = true → ∀ w1, Gd cl lv W0 i w w1 → (execOp a.eval o).run P w1 = .ok (.value v) w1) ∧
    (Region.wanted o (yielded ops a.tmps) = false → v = undef) ∧ RS rest (a.put o.dst v) w
  else if Region.wanted o (yielded ops a.tmps) = true then Eff P Z (cl i == 1) o a w (fun a' w' => RS rest a' w')
  else RS rest (a.put o.dst undef) w
end

section
variable {P : Program} {Z : List PanicEntry → Act → World → Prop} {ops : Array Oper} {cl : Nat → Nat} {lv : Nat → Bool} {wt : Nat → Nat → Bool} {W0 : World} {K : Act → World → Prop}

structure Okay (ops : Array Oper) (cl : Nat → Nat) (lv : Nat → Bool) (wt : Nat → Nat → Bool) : Prop where
 sel : ∀ (j : Nat) (o : Oper) cs b, ops[j]? = some o → o.op ≠ .select cs b
 way : ∀ (j : Nat) (o : Oper) (i : Nat), ops[j]? = some o → wt j i = true → ∃ e, e ∈ o.after ∧ Region.binds .any e = true ∧ (e.on = i ∨ wt e.on i = true)
 lt : ∀ (j : Nat) (o : Oper) (e : Edge), ops[j]? = some o → e ∈ o.after → Region.binds .any e = true → e.on < j
 pair : ∀ (i j : Nat) (oi oj : Oper), i < j → ops[i]? = some oi → ops[j]? = some oj → wt j i = false → oi.apart ops oj = true ∧ (cl i = 3 ∨ cl j = 3 ∨ (cl i = 0 ∨ cl j = 0) ∧ cl i ≠ 2 ∧ cl j ≠ 2)
 cls : ∀ i, cl i ≤ 3
 fresh : ∀ (i j : Nat), i < j → j < ops.size → cl j = 0 → lv j = true → cl i ≠ 0 → cl i ≠ 3 → wt j i = true
 stale : ∀ (i j : Nat), i < j → j < ops.size → cl j = 0 → lv j = false → cl i ≠ 2

theorem Qge (hZ : ∀ ch a w, ¬ Z ch a w) (ok : Okay ops cl lv wt) {j : Nat} {oj : Oper} (hj : ops[j]? = some oj) (hcj : cl j = 0 ∨ cl j = 3) :
  ∀ (L : List Nat) (a : Act) (w : World), L.Pairwise (· < ·) → j ∈ L → (∀ i ∈ L, i < j → wt j i = false) → RS P Z ops cl lv W0 K L a w →
  ∃ v, (Region.wanted oj (yielded ops a.tmps) = true → ∀ w1, Gd cl lv W0 j w w1 → (execOp a.eval oj).run P w1 = .ok (.value v) w1) ∧
   (Region.wanted oj (yielded ops a.tmps) = false → v = undef) ∧ RS P Z ops cl lv W0 K (L.erase j) (a.put oj.dst v) w := by
 intro L
 induction L with
 | nil => intro a w _ hm; cases hm
 | cons i rest ih =>
  intro a w hs hm hr h
  obtain ⟨oi, hoi, hb⟩ := h
  by_cases hij : i = j
  ·subst hij
   obtain rfl : oi = oj := Option.some.inj (hoi.symm.trans hj)
   rw [if_pos hcj] at hb
   obtain ⟨v, h1, h2, h3⟩ := hb
   exact ⟨v, h1, h2, by simpa using h3⟩
  ·have hmr : j ∈ rest := by
    rcases List.mem_cons.1 hm with h | h
    ·exact absurd h.symm hij
    ·exact h
   have hlt : i < j := (List.pairwise_cons.1 hs).1 j hmr
   have hrr : ∀ k ∈ rest, k < j → wt j k = false := fun k hk => hr k (List.mem_cons_of_mem _ hk)
   have hw := hr i List.mem_cons_self hlt
   obtain ⟨hap, hcc⟩ := ok.pair i j oi oj hlt hoi hj hw
   obtain ⟨p1, p2, p3⟩ := Oper.apart_spec hap
   have he : (i :: rest).erase j = i :: rest.erase j := by
    rw [List.erase_cons_tail]; simpa using hij
   have evj : ∀ v, execOp (a.put oi.dst v).eval oj = execOp a.eval oj := fun v => execOp_put (ops := ops) oj (fun cs b => ok.sel j oj cs b hj) a oi.dst v p1
   have waj : ∀ v, Region.wanted oj (yielded ops (a.put oi.dst v).tmps) = Region.wanted oj (yielded ops a.tmps) := fun v => wanted_put oj a oi.dst v p1
   have evi : ∀ v, execOp (a.put oj.dst v).eval oi = execOp a.eval oi := fun v => execOp_put (ops := ops) oi (fun cs b => ok.sel i oi cs b hoi) a oj.dst v p3
   have wai : ∀ v, Region.wanted oi (yielded ops (a.put oj.dst v).tmps) = Region.wanted oi (yielded ops a.tmps) := fun v => wanted_put oi a oj.dst v p3
   have com : ∀ u v, (a.put oi.dst u).put oj.dst v = (a.put oj.dst v).put oi.dst u := fun u v => Act.put_comm a u v p2
   by_cases hci : cl i = 0 ∨ cl i = 3
   ·rw [if_pos hci] at hb
    obtain ⟨u, h1, h2, h3⟩ := hb
    obtain ⟨v, k1, k2, k3⟩ := ih (a.put oi.dst u) w (List.pairwise_cons.1 hs).2 hmr hrr h3
    rw [waj] at k1 k2
    rw [evj] at k1
    refine ⟨v, k1, k2, ?_⟩
    rw [he]
    refine ⟨oi, hoi, ?_⟩
    rw [if_pos hci]
    refine ⟨u, ?_, ?_, ?_⟩
    ·rw [wai, evi]; exact h1
    ·rw [wai]; exact h2
    ·rw [← com]; exact k3
   ·rw [if_neg hci] at hb
    by_cases hwi : Region.wanted oi (yielded ops a.tmps) = true
    ·rw [if_pos hwi] at hb
     have hgd : ∀ w' w1, Gd cl lv W0 j w' w1 ↔ (cl j = 3 ∨ G W0 w1) := by
      intro w' w1
      unfold Gd
      rcases hcj with hc | hc
      ·have hlj : lv j = false := by
        cases hl : lv j with
        | false => rfl
        | true =>
         have := ok.fresh i j hlt (Array.getElem?_eq_some_iff.1 hj).1 hc hl (fun h => hci (.inl h)) (fun h => hci (.inr h))
         rw [this] at hw; cases hw
       rw [if_neg (by rw [hlj]; simp)]
      ·simp [hc]
     have key : ∀ u w', RS P Z ops cl lv W0 K rest (a.put oi.dst u) w' → ∃ v, (Region.wanted oj (yielded ops a.tmps) = true → ∀ w1, (cl j = 3 ∨ G W0 w1) → (execOp a.eval oj).run P w1 = .ok (.value v) w1) ∧
       (Region.wanted oj (yielded ops a.tmps) = false → v = undef) ∧ RS P Z ops cl lv W0 K (rest.erase j) ((a.put oi.dst u).put oj.dst v) w' := by
      intro u w' h3
      obtain ⟨v, k1, k2, k3⟩ := ih (a.put oi.dst u) w' (List.pairwise_cons.1 hs).2 hmr hrr h3
      rw [waj] at k1 k2
      rw [evj] at k1
      exact ⟨v, fun hh w1 hg => k1 hh w1 ((hgd _ _).2 hg), k2, k3⟩
     obtain ⟨u0, w0', _, hn0⟩ := hb.some hZ
     obtain ⟨v, k1, k2, _⟩ := key u0 w0' hn0
     refine ⟨v, fun hh w1 hg => k1 hh w1 ((hgd _ _).1 hg), k2, ?_⟩
     rw [he]
     refine ⟨oi, hoi, ?_⟩
     rw [if_neg hci, wai, if_pos hwi]
     refine hb.turn (evi v) (fun ch w' h => absurd h (hZ _ _ _)) fun u w' _ h3 => ?_
     obtain ⟨v', q1, q2, q3⟩ := key u w' h3
     have hv : v' = v := by
      cases hwj : Region.wanted oj (yielded ops a.tmps) with
      | true =>
       have e1 := k1 hwj W0 (.inr (G.refl _))
       have e2 := q1 hwj W0 (.inr (G.refl _))
       rw [e1] at e2
       injection e2 with e2 _
       injection e2 with e2
       exact e2.symm
      | false => rw [k2 hwj, q2 hwj]
     subst hv
     rw [← com]; exact q3
    ·rw [if_neg hwi] at hb
     obtain ⟨v, k1, k2, k3⟩ := ih (a.put oi.dst undef) w (List.pairwise_cons.1 hs).2 hmr hrr hb
     rw [waj] at k1 k2
     rw [evj] at k1
     refine ⟨v, k1, k2, ?_⟩
     rw [he]
     refine ⟨oi, hoi, ?_⟩
     rw [if_neg hci, wai, if_neg hwi, ← com]; exact k3

theorem Woe (hZ : ∀ ch a w, ¬ Z ch a w) (ok : Okay ops cl lv wt) {j : Nat} {oj : Oper} (hj : ops[j]? = some oj) (hcj : ¬ (cl j = 0 ∨ cl j = 3)) :
  ∀ (L : List Nat) (a : Act) (w : World), L.Pairwise (· < ·) → j ∈ L → (∀ i ∈ L, i < j → wt j i = false) → RS P Z ops cl lv W0 K L a w →
  if Region.wanted oj (yielded ops a.tmps) = true then Eff P Z (cl j == 1) oj a w (fun a' w' => RS P Z ops cl lv W0 K (L.erase j) a' w')
  else RS P Z ops cl lv W0 K (L.erase j) (a.put oj.dst undef) w := by
 intro L
 induction L with
 | nil => intro a w _ hm; cases hm
 | cons i rest ih =>
  intro a w hs hm hr h
  obtain ⟨oi, hoi, hb⟩ := h
  by_cases hij : i = j
  ·subst hij
   obtain rfl : oi = oj := Option.some.inj (hoi.symm.trans hj)
   rw [if_neg hcj] at hb
   simpa using hb
  ·have hmr : j ∈ rest := by
    rcases List.mem_cons.1 hm with h | h
    ·exact absurd h.symm hij
    ·exact h
   have hlt : i < j := (List.pairwise_cons.1 hs).1 j hmr
   have hrr : ∀ k ∈ rest, k < j → wt j k = false := fun k hk => hr k (List.mem_cons_of_mem _ hk)
   have hw := hr i List.mem_cons_self hlt
   obtain ⟨hap, hcc⟩ := ok.pair i j oi oj hlt hoi hj hw
   have hci : cl i = 3 ∨ cl i = 0 ∧ cl j = 1 := by
    have hle := ok.cls j
    rcases hcc with h | h | ⟨h, _, h2⟩
    ·exact .inl h
    ·exact absurd (.inr h) hcj
    ·rcases h with h | h
     ·exact .inr ⟨h, by omega⟩
     ·exact absurd (.inl h) hcj
   have hci' : cl i = 0 ∨ cl i = 3 := by
    rcases hci with h | h
    ·exact .inr h
    ·exact .inl h.1
   obtain ⟨p1, p2, p3⟩ := Oper.apart_spec hap
   have he : (i :: rest).erase j = i :: rest.erase j := by
    rw [List.erase_cons_tail]; simpa using hij
   have evj : ∀ v, execOp (a.put oi.dst v).eval oj = execOp a.eval oj := fun v => execOp_put (ops := ops) oj (fun cs b => ok.sel j oj cs b hj) a oi.dst v p1
   have waj : ∀ v, Region.wanted oj (yielded ops (a.put oi.dst v).tmps) = Region.wanted oj (yielded ops a.tmps) := fun v => wanted_put oj a oi.dst v p1
   have evi : ∀ v, execOp (a.put oj.dst v).eval oi = execOp a.eval oi := fun v => execOp_put (ops := ops) oi (fun cs b => ok.sel i oi cs b hoi) a oj.dst v p3
   have wai : ∀ v, Region.wanted oi (yielded ops (a.put oj.dst v).tmps) = Region.wanted oi (yielded ops a.tmps) := fun v => wanted_put oi a oj.dst v p3
   have com : ∀ u v, (a.put oi.dst u).put oj.dst v = (a.put oj.dst v).put oi.dst u := fun u v => Act.put_comm a u v p2
   rw [if_pos hci'] at hb
   obtain ⟨u, h1, h2, h3⟩ := hb
   have k := ih (a.put oi.dst u) w (List.pairwise_cons.1 hs).2 hmr hrr h3
   rw [waj] at k
   have back : ∀ x w', (cl j = 1 → G w w') → RS P Z ops cl lv W0 K (rest.erase j) ((a.put oi.dst u).put oj.dst x) w' → RS P Z ops cl lv W0 K ((i :: rest).erase j) (a.put oj.dst x) w' := by
    intro x w' hg hk
    rw [he]
    refine ⟨oi, hoi, ?_⟩
    rw [if_pos hci']
    refine ⟨u, ?_, ?_, ?_⟩
    ·rw [wai, evi]
     intro hwi w1 hg1
     refine h1 hwi w1 ?_
     rcases hg1 with hg1 | hg1
     ·exact .inl hg1
     ·rcases hci with hc | ⟨_, hc⟩
      ·exact .inl hc
      ·refine .inr ?_
       by_cases hl : lv i = true
       ·rw [if_pos hl] at hg1 ⊢; exact (hg hc).trans hg1
       ·rw [if_neg hl] at hg1 ⊢; exact hg1
    ·rw [wai]; exact h2
    ·rw [← com]; exact hk
   by_cases hwj : Region.wanted oj (yielded ops a.tmps) = true
   ·rw [if_pos hwj] at k ⊢
    refine k.turn (evj u).symm (fun ch w' h => absurd h (hZ _ _ _)) fun x w' hg hk => back x w' (fun h => hg (by simp [h])) hk
   ·rw [if_neg hwj] at k ⊢
    exact back _ _ (fun _ => G.refl _) k

structure Left (ops : Array Oper) (L : List Nat) (listed : Array Bool) : Prop where
 size : listed.size = ops.size
 sorted : L.Pairwise (· < ·)
 mem : ∀ i, i ∈ L ↔ i < ops.size ∧ listed.getD i true = false
 closed : ∀ j oj, ops[j]? = some oj → j ∉ L → ∀ e ∈ oj.after, Region.binds .any e = true → e.on ∉ L

theorem Left.waits (ok : Okay ops cl lv wt) {L : List Nat} {listed : Array Bool} (hL : Left ops L listed) :
  ∀ (n j : Nat) (oj : Oper), j ≤ n → ops[j]? = some oj → (∀ e ∈ oj.after, Region.binds .any e = true → e.on ∉ L) → ∀ i ∈ L, wt j i = false := by
 intro n
 induction n with
 | zero =>
  intro j oj hjn hj _ i _
  cases hw : wt j i with
  | false => rfl
  | true =>
   obtain ⟨e, he, hb, _⟩ := ok.way j oj i hj hw
   have := ok.lt j oj e hj he hb
   omega
 | succ n ih =>
  intro j oj hjn hj hall i hi
  cases hw : wt j i with
  | false => rfl
  | true =>
   obtain ⟨e, he, hb, hh⟩ := ok.way j oj i hj hw
   have hlt := ok.lt j oj e hj he hb
   have hnot := hall e he hb
   rcases hh with rfl | hh
   ·exact absurd hi hnot
   ·have hes : e.on < ops.size := by have := (Array.getElem?_eq_some_iff.1 hj).1; omega
    have hoe : ops[e.on]? = some ops[e.on] := Array.getElem?_eq_getElem hes
    have := ih e.on _ (by omega) hoe (hL.closed e.on _ hoe hnot) i hi
    rw [this] at hh; cases hh

theorem Left.step {L : List Nat} {listed : Array Bool} (hL : Left ops L listed) {j : Nat} {oj : Oper} (hj : ops[j]? = some oj) (hall : ∀ e ∈ oj.after, Region.binds .any e = true → e.on ∉ L) :
  Left ops (L.erase j) (listed.setIfInBounds j true) := by
 have hjs : j < listed.size := by rw [hL.size]; exact (Array.getElem?_eq_some_iff.1 hj).1
 have nd : L.Nodup := hL.sorted.imp (fun h => Nat.ne_of_lt h)
 refine ⟨by simp [hL.size], hL.sorted.sublist List.erase_sublist, fun i => ?_, fun k ok' hk hkn e he hb => ?_⟩
 ·rw [nd.mem_erase_iff, hL.mem]
  by_cases hij : i = j
  ·subst hij
   simp [hjs]
  ·rw [getD_set_ne true (fun h => hij h.symm)]
   simp [hij]
 ·by_cases hkj : k = j
  ·subst hkj
   obtain rfl : ok' = oj := Option.some.inj (hk.symm.trans hj)
   exact fun h => hall e he hb (List.mem_of_mem_erase h)
  ·have hkl : k ∉ L := fun h => hkn (nd.mem_erase_iff.2 ⟨hkj, h⟩)
   exact fun h => hL.closed k ok' hk hkl e he hb (List.mem_of_mem_erase h)

theorem Wpe {ρ : Option Nat} (hZ : ∀ ch a w, ¬ Z ch a w) (ok : Okay ops cl lv wt) {Q : Exit → Act → World → Prop} (hQ : ∀ a w, K a w → Q .normal a w) :
  ∀ (n : Nat) (L : List Nat) (listed : Array Bool) (a : Act) (w : World), L.length = n → Left ops L listed → (∀ i ∈ L, cl i = 0 → lv i = false → G W0 w) → RS P Z ops cl lv W0 K L a w →
   wpAnyIn (WF ρ) 0 P .any ops Q n listed a w := by
 intro n
 induction n with
 | zero =>
  intro L listed a w hn hL hG h
  obtain rfl : L = [] := List.eq_nil_of_length_eq_zero hn
  refine ⟨?_, hQ _ _ h⟩
  refine List.eq_nil_iff_forall_not_mem.2 fun j hj => ?_
  obtain ⟨h0, o, ho, _⟩ := mem_ready.1 hj
  have := (hL.mem j).2 ⟨(Array.getElem?_eq_some_iff.1 ho).1, h0⟩
  cases this
 | succ n ih =>
  intro L listed a w hn hL hG h
  have inL : ∀ j, j ∈ Region.ready .any ops listed → ∃ oj, ops[j]? = some oj ∧ j ∈ L ∧ ∀ e ∈ oj.after, Region.binds .any e = true → e.on ∉ L := by
   intro j hj
   obtain ⟨h0, oj, ho, hall⟩ := mem_ready.1 hj
   have hjs := (Array.getElem?_eq_some_iff.1 ho).1
   refine ⟨oj, ho, (hL.mem j).2 ⟨hjs, h0⟩, fun e he hb hm => ?_⟩
   have h1 := hall e he hb
   obtain ⟨h2, h3⟩ := (hL.mem e.on).1 hm
   have h4 : e.on < listed.size := by rw [hL.size]; exact h2
   simp [h4] at h1 h3
   rw [h1] at h3; cases h3
  refine ⟨fun h0 => ?_, fun j hj => ?_⟩
  ·exfalso
   match L, hn, hL, h with
   | i :: rest, _, hL, h =>
    obtain ⟨oi, hoi, _⟩ := h
    have him := (hL.mem i).1 List.mem_cons_self
    have : i ∈ Region.ready .any ops listed := by
     refine mem_ready.2 ⟨him.2, oi, hoi, fun e he hb => ?_⟩
     have hlt := ok.lt i oi e hoi he hb
     have hno : e.on ∉ i :: rest := by
      intro hm
      rcases List.mem_cons.1 hm with hm | hm
      ·omega
      ·have := (List.pairwise_cons.1 hL.sorted).1 _ hm; omega
     have hes : e.on < listed.size := by rw [hL.size]; omega
     cases hl : listed.getD e.on true with
     | false => exact absurd ((hL.mem e.on).2 ⟨by rw [← hL.size]; exact hes, hl⟩) hno
     | true => simpa [hes] using hl
    rw [h0] at this; cases this
  ·obtain ⟨oj, hoj, hjL, hall⟩ := inL j hj
   have hws : ∀ i ∈ L, wt j i = false := hL.waits ok j j oj (Nat.le_refl _) hoj hall
   have hL' := hL.step hoj hall
   have hlen : (L.erase j).length = n := by rw [List.length_erase_of_mem hjL]; omega
   have nd : L.Nodup := hL.sorted.imp (fun h => Nat.ne_of_lt h)
   unfold wpOpIn
   simp only [hoj]
   by_cases hc : cl j = 0 ∨ cl j = 3
   ·obtain ⟨v, h1, h2, h3⟩ := Qge hZ ok hoj hc L a w hL.sorted hjL (fun i hi _ => hws i hi) h
    have hG' : ∀ i ∈ L.erase j, cl i = 0 → lv i = false → G W0 w := fun i hi => hG i (List.mem_of_mem_erase hi)
    have hnext := ih (L.erase j) _ (a.put oj.dst v) w hlen hL' hG' h3
    by_cases hwj : Region.wanted oj (yielded ops a.tmps) = true
    ·rw [if_pos hwj]
     have hr := h1 hwj w (by
      rcases hc with hc | hc
      ·refine .inr ?_
       by_cases hl : lv j = true
       ·rw [if_pos hl]; exact G.refl _
       ·rw [if_neg hl]; exact hG j hjL hc (by simpa using hl)
      ·exact .inl hc)
     refine ⟨fun _ _ => trivial, ?_⟩
     rw [Uua hr (fun d h => by cases h), hr]
     exact hnext
    ·rw [if_neg hwj]
     have := h2 (by simpa using hwj)
     subst this
     exact ⟨fun _ _ => trivial, hnext⟩
   ·have h1 := Woe hZ ok hoj hc L a w hL.sorted hjL (fun i hi _ => hws i hi) h
    have hG' : ∀ w', (cl j = 1 → G w w') → ∀ i ∈ L.erase j, cl i = 0 → lv i = false → G W0 w' := by
     intro w' hg i hi hci hl
     obtain ⟨hij, hiL⟩ := nd.mem_erase_iff.1 hi
     have his := ((hL.mem i).1 hiL).1
     have hjs := ((hL.mem j).1 hjL).1
     have hc1 : cl j = 1 := by
      have hle := ok.cls j
      have hne : cl j ≠ 2 := by
       intro h2
       rcases Nat.lt_or_ge i j with hlt | hge
       ·have := (ok.pair i j ops[i] oj hlt (Array.getElem?_eq_getElem his) hoj (hws i hiL)).2
        rcases this with h | h | h
        ·omega
        ·omega
        ·exact h.2.2 h2
       ·exact ok.stale j i (by omega) his hci hl h2
      omega
     exact (hG i hiL hci hl).trans (hg hc1)
    by_cases hwj : Region.wanted oj (yielded ops a.tmps) = true
    ·rw [if_pos hwj] at h1 ⊢
     refine Eff.wpIn (Z := Z) (gr := cl j == 1) ?_ (fun ch w' h => absurd h (hZ _ _ _))
     refine h1.turn rfl (fun _ _ h => h) fun v w' hg hk => ?_
     exact ih (L.erase j) _ _ w' hlen hL' (hG' w' fun e => hg (by simp [e])) hk
    ·rw [if_neg hwj] at h1 ⊢
     exact ⟨fun _ _ => trivial, ih (L.erase j) _ _ w hlen hL' (fun i hi => hG i (List.mem_of_mem_erase hi)) h1⟩

theorem Wmc (ops : Array Oper) : Left ops (List.range ops.size) (Array.replicate ops.size false) := by
 refine ⟨by simp, List.pairwise_lt_range, fun i => ?_, fun j oj hj hn => ?_⟩
 ·rw [List.mem_range]
  constructor
  ·intro h; exact ⟨h, by simp [h]⟩
  ·exact fun h => h.1
 ·exact absurd (List.mem_range.2 (Array.getElem?_eq_some_iff.1 hj).1) hn

theorem Wqe {ρ : Option Nat} (hZ : ∀ ch a w, ¬ Z ch a w) (ok : Okay ops cl lv wt) {id : Nat} {Q : Exit → Act → World → Prop} {a : Act} {w : World} (hm : P.follows .mixedOrders = true)
  (h : RS P Z ops cl lv w.drew (fun a w => Q .normal a w) (List.range ops.size) a w.drew) : (Code.region id ops true).wpIn (WF ρ) 0 P Q a w := by
 refine wpIn_region_any hm ?_
 have := Wpe (Q := Q) (ρ := ρ) hZ ok (fun _ _ h => h) (List.range ops.size).length (List.range ops.size) (Array.replicate ops.size false) a w.drew rfl (Wmc ops) (fun _ _ _ _ => G.refl _) h
 simpa using this
theorem Xkf (ok : Okay ops cl lv wt) {id : Nat} {Q : Exit → Act → World → Prop} {a : Act} {w : World} (hm : P.follows .mixedOrders = true)
  (h : RS P NoP ops cl lv w.drew (fun a w => Q .normal a w) (List.range ops.size) a w.drew) : (Code.region id ops true).wp P Q a w :=
 wpIn_wide.1 (Wqe (ρ := none) (fun _ _ _ h => h) ok hm h)

theorem Jqa {ρ : Option Nat} {Q : Exit → Act → World → Prop} (hZ : ∀ ch a w, Z ch a w → Q (.panic ch) a w) : ∀ (L : List Nat) (a : Act) (w : World), RS P Z ops cl (fun _ => true) W0 (fun a w => Q .normal a w) L a w → wpOpsIn (WF ρ) 0 P ops Q L a w
 | [], _, _, h => h
 | i :: rest, a, w, h => by
  obtain ⟨o, ho, hb⟩ := h
  unfold wpOpsIn
  simp only [ho]
  by_cases hw : Region.wanted o (yielded ops a.tmps) = true
  ·rw [if_pos hw]
   by_cases hc : cl i = 0 ∨ cl i = 3
   ·rw [if_pos hc] at hb
    obtain ⟨v, h1, _, h3⟩ := hb
    have hr := h1 hw w (.inr (by rw [if_pos rfl]; exact G.refl _))
    refine ⟨fun _ _ => trivial, ?_⟩
    rw [Uua hr (fun d h => by cases h), hr]
    exact Jqa hZ rest _ _ h3
   ·rw [if_neg hc, if_pos hw] at hb
    exact Eff.wpIn (hb.turn rfl (fun _ _ h => h) fun v w' _ hk => Jqa hZ rest _ _ hk) (fun ch w' h => hZ _ _ _ h)
  ·rw [if_neg hw]
   refine ⟨fun _ _ => trivial, ?_⟩
   by_cases hc : cl i = 0 ∨ cl i = 3
   ·rw [if_pos hc] at hb
    obtain ⟨v, _, h2, h3⟩ := hb
    have := h2 (by simpa using hw)
    subst this
    exact Jqa hZ rest _ _ h3
   ·rw [if_neg hc, if_neg hw] at hb
    exact Jqa hZ rest _ _ hb

theorem Wre {ρ : Option Nat} {id : Nat} {Q : Exit → Act → World → Prop} {a : Act} {w : World} (hZ : ∀ ch a w, Z ch a w → Q (.panic ch) a w) (h : RS P Z ops cl (fun _ => true) W0 (fun a w => Q .normal a w) (List.range ops.size) a w) :
  (Code.region id ops false).wpIn (WF ρ) 0 P Q a w := wpIn_region (Jqa hZ _ _ _ h)
theorem Xlf {id : Nat} {Q : Exit → Act → World → Prop} {a : Act} {w : World} (h : RS P NoP ops cl (fun _ => true) W0 (fun a w => Q .normal a w) (List.range ops.size) a w) :
  (Code.region id ops false).wp P Q a w := wpIn_wide.1 (Wre (ρ := none) (fun _ _ _ h => h.elim) h)
end

/-! A look at the region's text, by reckoning. -/
def clOf (cl : List Nat) (i : Nat) : Nat := cl.getD i 0
def lvOf (lv : List Bool) (i : Nat) : Bool := lv.getD i true
def wtOf (ms : List Nat) (j i : Nat) : Bool := (ms.getD j 0).testBit i

def maskOf (ms : List Nat) : List Edge → Nat
 | [] => 0
 | e :: r => if Region.binds .any e = true then (2 ^ e.on) ||| (ms.getD e.on 0) ||| maskOf ms r else maskOf ms r

def Yse (o : Oper) : Bool := match o.op with | .select .. => false | _ => true

def Jaa (ops : Array Oper) (cl : List Nat) (lv : List Bool) (ms : List Nat) (E : List (Nat × Oper × Nat)) (k : Nat) (o : Oper) : Bool :=
 Yse o && Nat.ble (clOf cl k) 3 && o.after.toList.all (fun e => !Region.binds .any e || Nat.blt e.on k) && Nat.beq (ms.getD k 0) (maskOf ms o.after.toList) &&
 E.all (fun p => (ms.getD k 0).testBit p.1 || (p.2.1.apart ops o && (Nat.beq p.2.2 3 || Nat.beq (clOf cl k) 3 || (Nat.beq p.2.2 0 || Nat.beq (clOf cl k) 0) && !Nat.beq p.2.2 2 && !Nat.beq (clOf cl k) 2))) &&
 (!Nat.beq (clOf cl k) 0 || if lvOf lv k = true then E.all (fun p => Nat.beq p.2.2 0 || Nat.beq p.2.2 3 || (ms.getD k 0).testBit p.1) else E.all (fun p => !Nat.beq p.2.2 2))

def Qjb (ops : Array Oper) (cl : List Nat) (lv : List Bool) (ms : List Nat) : List (Nat × Oper × Nat) → Nat → List Oper → Bool
 | _, _, [] => true
 | E, k, o :: rest => Jaa ops cl lv ms E k o && Qjb ops cl lv ms ((k, o, clOf cl k) :: E) (k + 1) rest

def okB (l : List Oper) (cl : List Nat) (lv : List Bool) (ms : List Nat) : Bool :=
 Qjb l.toArray cl lv ms [] 0 l && Nat.ble cl.length l.length && Nat.ble ms.length l.length

theorem Vcb (ms : List Nat) (i : Nat) : ∀ (l : List Edge), (maskOf ms l).testBit i = true → ∃ e, e ∈ l ∧ Region.binds .any e = true ∧ (e.on = i ∨ wtOf ms e.on i = true)
 | [], h => by simp [maskOf] at h
 | e :: r, h => by
  unfold maskOf at h
  by_cases hb : Region.binds .any e = true
  ·rw [if_pos hb, Nat.testBit_or, Nat.testBit_or, Bool.or_eq_true, Bool.or_eq_true] at h
   rcases h with (h | h) | h
   ·refine ⟨e, List.mem_cons_self, hb, .inl ?_⟩
    rw [Nat.testBit_two_pow] at h
    simpa using h
   ·exact ⟨e, List.mem_cons_self, hb, .inr h⟩
   ·obtain ⟨e', h1, h2⟩ := Vcb ms i r h
    exact ⟨e', List.mem_cons_of_mem _ h1, h2⟩
  ·rw [if_neg hb] at h
   obtain ⟨e', h1, h2⟩ := Vcb ms i r h
   exact ⟨e', List.mem_cons_of_mem _ h1, h2⟩

theorem Ueb (ops : Array Oper) (cl : List Nat) (lv : List Bool) (ms : List Nat) : ∀ (l : List Oper) (E : List (Nat × Oper × Nat)) (k : Nat),
  (∀ j, l[j]? = ops[k + j]?) → (∀ i, i < k → ∃ oi, ops[i]? = some oi ∧ (i, oi, clOf cl i) ∈ E) → Qjb ops cl lv ms E k l = true →
  ∀ j oj, k ≤ j → ops[j]? = some oj → ∃ E', (∀ i, i < j → ∃ oi, ops[i]? = some oi ∧ (i, oi, clOf cl i) ∈ E') ∧ Jaa ops cl lv ms E' j oj = true
 | [], _, k, hl, _, _ => by
  intro j oj hkj hj
  have := hl (j - k)
  rw [show k + (j - k) = j by omega, hj] at this
  simp at this
 | o :: rest, E, k, hl, hE, h => by
  intro j oj hkj hj
  unfold Qjb at h
  rw [Bool.and_eq_true] at h
  have h0 : ops[k]? = some o := by simpa using (hl 0).symm
  by_cases hjk : j = k
  ·subst hjk
   obtain rfl : o = oj := Option.some.inj (h0.symm.trans hj)
   exact ⟨E, hE, h.1⟩
  ·refine Ueb ops cl lv ms rest ((k, o, clOf cl k) :: E) (k + 1) (fun j => by have := hl (j + 1); simpa [Nat.add_assoc, Nat.add_comm 1 j] using this) ?_ h.2 j oj (by omega) hj
   intro i hi
   by_cases hik : i = k
   ·subst hik
    exact ⟨o, h0, List.mem_cons_self⟩
   ·obtain ⟨oi, h1, h2⟩ := hE i (by omega)
    exact ⟨oi, h1, List.mem_cons_of_mem _ h2⟩

theorem Xmf {l : List Oper} {cl : List Nat} {lv : List Bool} {ms : List Nat} (h : okB l cl lv ms = true) : Okay l.toArray (clOf cl) (lvOf lv) (wtOf ms) := by
 unfold okB at h
 rw [Bool.and_eq_true, Bool.and_eq_true] at h
 obtain ⟨⟨h, hcl⟩, hml⟩ := h
 have S := Ueb l.toArray cl lv ms l [] 0 (by simp) (fun i hi => absurd hi (by omega)) h
 have at_ : ∀ j oj, l.toArray[j]? = some oj → ∃ E', (∀ i, i < j → ∃ oi, l.toArray[i]? = some oi ∧ (i, oi, clOf cl i) ∈ E') ∧ Jaa l.toArray cl lv ms E' j oj = true := fun j oj hj => S j oj (Nat.zero_le _) hj
 have hsize : ∀ j, l.toArray.size ≤ j → clOf cl j = 0 ∧ ms.getD j 0 = 0 := by
  intro j hj
  have h1 := Nat.le_of_ble_eq_true hcl
  have h2 := Nat.le_of_ble_eq_true hml
  simp only [List.size_toArray] at hj
  constructor
  ·unfold clOf; rw [List.getD_eq_getElem?_getD, List.getElem?_eq_none (by omega)]; rfl
  ·rw [List.getD_eq_getElem?_getD, List.getElem?_eq_none (by omega)]; rfl
 refine ⟨?_, ?_, ?_, ?_, ?_, ?_, ?_⟩
 ·intro j o cs b hj heq
  obtain ⟨E', _, hh⟩ := at_ j o hj
  simp [Jaa, Yse, heq] at hh
 ·intro j o i hj hw
  obtain ⟨E', _, hh⟩ := at_ j o hj
  simp only [Jaa, Bool.and_eq_true] at hh
  have hm := Nat.eq_of_beq_eq_true hh.1.1.2
  unfold wtOf at hw
  rw [hm] at hw
  obtain ⟨e, h1, h2⟩ := Vcb ms i _ hw
  exact ⟨e, Array.mem_toList_iff.1 h1, h2⟩
 ·intro j o e hj he hb
  obtain ⟨E', _, hh⟩ := at_ j o hj
  simp only [Jaa, Bool.and_eq_true, List.all_eq_true, Array.mem_toList_iff, Bool.or_eq_true, Bool.not_eq_true'] at hh
  rcases hh.1.1.1.2 e he with h1 | h1
  ·rw [hb] at h1; cases h1
  ·exact Nat.le_of_ble_eq_true h1
 ·intro i j oi oj hij hi hj hw
  obtain ⟨E', hE, hh⟩ := at_ j oj hj
  simp only [Jaa, Bool.and_eq_true, List.all_eq_true, Bool.or_eq_true] at hh
  obtain ⟨oi', h1, h2⟩ := hE i hij
  obtain rfl : oi' = oi := Option.some.inj (h1.symm.trans hi)
  rcases hh.1.2 _ h2 with h3 | h3
  ·unfold wtOf at hw; rw [h3] at hw; cases hw
  ·obtain ⟨a1, h4⟩ := h3
   refine ⟨a1, ?_⟩
   rcases h4 with (h4 | h4) | h4
   ·exact .inl (Nat.eq_of_beq_eq_true h4)
   ·exact .inr (.inl (Nat.eq_of_beq_eq_true h4))
   ·obtain ⟨⟨a2, a3⟩, a4⟩ := h4
    refine .inr (.inr ⟨?_, ?_, ?_⟩)
    ·rcases a2 with a2 | a2
     ·exact .inl (Nat.eq_of_beq_eq_true a2)
     ·exact .inr (Nat.eq_of_beq_eq_true a2)
    ·intro h; dsimp only at a3; rw [h] at a3; simp at a3
    ·intro h; rw [h] at a4; simp at a4
 ·intro i
  rcases Nat.lt_or_ge i l.toArray.size with hi | hi
  ·obtain ⟨E', _, hh⟩ := at_ i _ (Array.getElem?_eq_getElem hi)
   simp only [Jaa, Bool.and_eq_true] at hh
   exact Nat.le_of_ble_eq_true hh.1.1.1.1.2
  ·rw [(hsize i hi).1]; omega
 ·intro i j hij hj hcj hl hc hc3
  obtain ⟨E', hE, hh⟩ := at_ j _ (Array.getElem?_eq_getElem hj)
  obtain ⟨oi, h1, h2⟩ := hE i hij
  simp only [Jaa, Bool.and_eq_true] at hh
  have h3 := hh.2
  rw [hcj, hl] at h3
  simp only [Nat.beq_refl, Bool.not_true, Bool.false_or, if_true, List.all_eq_true, Bool.or_eq_true] at h3
  rcases h3 _ h2 with (h3 | h3) | h3
  ·exact absurd (Nat.eq_of_beq_eq_true h3) hc
  ·exact absurd (Nat.eq_of_beq_eq_true h3) hc3
  ·exact h3
 ·intro i j hij hj hcj hl hc
  obtain ⟨E', hE, hh⟩ := at_ j _ (Array.getElem?_eq_getElem hj)
  obtain ⟨oi, h1, h2⟩ := hE i hij
  simp only [Jaa, Bool.and_eq_true] at hh
  have h3 := hh.2
  rw [hcj, hl] at h3
  simp only [Nat.beq_refl, Bool.not_true, Bool.false_or] at h3
  rw [if_neg (by simp)] at h3
  have h4 := List.all_eq_true.1 h3 _ h2
  dsimp only at h4
  rw [hc] at h4
  simp at h4

abbrev Ent := Nat × Prop × Value

def look : List Ent → Nat → Option (Prop × Value)
 | [], _ => none
 | (k, c, v) :: r, t => bif Nat.beq k t then some (c, v) else look r t

def Kn (n : Nat) (σ : List Ent) (a : Act) : Prop :=
 a.tmps.size = n ∧ a.defers = [] ∧ ∀ t c v, look σ t = some (c, v) → (c → a.tmps[t]? = some v) ∧ (¬ c → a.tmps[t]? = some undef)

def Ev (n : Nat) (σ : List Ent) (c : Prop) (x : Operand) (v : Value) : Prop := ∀ a, Kn n σ a → c → a.eval x = v

theorem Ztb (a : Act) (v : Value) : a.eval (.const v) = v := rfl
theorem Kn.at_ {n : Nat} {σ : List Ent} {a : Act} (h : Kn n σ a) {t : Nat} {c : Prop} {v : Value} (hl : look σ t = some (c, v)) (hc : c) : a.tmps[t]? = some v := (h.2.2 t c v hl).1 hc

section
variable {n : Nat} {σ : List Ent} {c : Prop} {v : Value}
theorem Zk {t : Nat} (h : look σ t = some (True, v)) : Ev n σ c (.tmp t) v := fun a ha _ => by
 simp [Act.eval, ha.at_ h trivial]
theorem Zq {t : Nat} {c' : Prop} (h : look σ t = some (c', v)) (hc : c → c') : Ev n σ c (.tmp t) v := fun a ha h1 => by
 simp [Act.eval, ha.at_ h (hc h1)]
theorem Xy : Ev n σ c (.const v) v := fun _ _ _ => rfl
theorem ev_g {g : Nat} : Ev n σ c (.global g) (.pointer (some ⟨g, 0, none⟩)) := fun _ _ _ => rfl
theorem Yo {f : Nat} : Ev n σ c (.func f) (.func (.func f) #[] #[]) := fun _ _ _ => rfl
theorem Ev.to {x : Operand} {v' : Value} (h : Ev n σ c x v) (e : c → v = v') : Ev n σ c x v' := fun a ha hc => (h a ha hc).trans (e hc)
end

theorem Kn.put {n : Nat} {σ : List Ent} {a : Act} (h : Kn n σ a) {d : Nat} (hd : Nat.blt d n = true) {c : Prop} {v v' : Value} (h1 : c → v' = v) (h2 : ¬ c → v' = undef) :
  Kn n ((d, c, v) :: σ) (a.put (some d) v') := by
 have hd' : d < n := Nat.le_of_ble_eq_true hd
 refine ⟨by simp [Act.put, h.1], h.2.1, fun t c' u hl => ?_⟩
 unfold look at hl
 by_cases ht : d = t
 ·subst ht
  simp only [Nat.beq_refl, cond_true] at hl
  injection hl with hl
  injection hl with e1 e2
  subst e1
  subst e2
  have hs : d < a.tmps.size := by rw [h.1]; exact hd'
  simp only [Act.put]
  rw [Array.getElem?_setIfInBounds_self_of_lt hs]
  exact ⟨fun hc => by rw [h1 hc], fun hc => by rw [h2 hc]⟩
 ·have : Nat.beq d t = false := by
   cases hb : Nat.beq d t with
   | false => rfl
   | true => exact absurd (Nat.eq_of_beq_eq_true hb) ht
  rw [this] at hl
  simp only [cond_false] at hl
  simp only [Act.put]
  rw [Array.getElem?_setIfInBounds_ne ht]
  exact h.2.2 t c' u hl

def Sub (τ σ : List Ent) : Prop := ∀ t c v, look τ t = some (c, v) → look σ t = some (c, v)
theorem Zj (σ : List Ent) : Sub [] σ := fun _ _ _ h => by simp [look] at h
theorem Za {t : Nat} {c : Prop} {v : Value} {τ σ : List Ent} (h : look σ t = some (c, v)) (k : Sub τ σ) : Sub ((t, c, v) :: τ) σ := fun u c' v' hl => by
 unfold look at hl
 cases hb : Nat.beq t u with
 | true =>
  rw [hb] at hl
  obtain rfl := Nat.eq_of_beq_eq_true hb
  simp only [cond_true] at hl
  injection hl with hl
  injection hl with e1 e2
  subst e1
  subst e2
  exact h
 | false => rw [hb] at hl; exact k u c' v' hl
theorem Kn.sub {n : Nat} {τ σ : List Ent} {a : Act} (h : Kn n σ a) (k : Sub τ σ) : Kn n τ a := ⟨h.1, h.2.1, fun t c v hl => h.2.2 t c v (k t c v hl)⟩

/-! ## Operations that read -/
def Rd (P : Program) (n : Nat) (σ : List Ent) (c : Prop) (wb : World) (op : Op) (ty : TypeId) (v : Value) : Prop :=
 ∀ (d : Option Tmp) (pos : String) (after : Array Edge) (g : Option (Nat × Bool)) (a : Act), Kn n σ a → c → ∀ w1, G wb w1 → (execOp a.eval ⟨d, op, ty, pos, after, g⟩).run P w1 = .ok (.value v) w1

def tyOne (P : Program) (t : TypeId) : Bool := match P.underlying t with | some (.struct _) => false | some (.array _ _) => false | some _ => true | none => false
def Ywb (P : Program) (t : TypeId) : Option Nat := match P.underlying t, P.info? t with | some (.struct _), some i => some i.size | some (.array _ _), some i => some i.size | _, _ => none
def tySize (P : Program) (t : TypeId) : Option Nat := (P.info? t).map (·.size)
def tyElem (P : Program) (t : TypeId) : Option (TypeId × Nat × Nat) := match P.underlying t with | some (.slice e) => (P.info? e).map fun i => (e, i.size, i.bytes) | _ => none
def Zzc (P : Program) (t : TypeId) : Bool := match P.underlying t with | some .string => true | _ => false
def Vl (P : Program) (s : TypeId) (k : Nat) : Option Nat := match P.underlying s with
 | some (.struct fs) => match fs[k]? with
  | some f => match P.info? f.type with
   | some i => if i.size = 0 then none else some f.offset
   | none => none
  | none => none
 | _ => none
def RowAt (w : World) (b o : Nat) (l : List Value) : Prop := ∀ j v, l[j]? = some v → w.cell? ⟨b, o + j, none⟩ = some v
theorem Jra {w w1 : World} (h : G w w1) {a : Addr} {v : Value} (hc : w.cell? a = some v) : w1.cell? a = some v := (Below.cell h (World.block_lt_of_cell? w a hc)).trans hc
theorem RowAt.grow {w w1 : World} {b o : Nat} {l : List Value} (h : RowAt w b o l) (hg : G w w1) : RowAt w1 b o l := fun j v hj => Jra hg (h j v hj)
theorem RowAt.part {w : World} {b o : Nat} {l : List Value} (h : RowAt w b o l) (i m : Nat) : RowAt w b (o + i) ((l.drop i).take m) := fun j v hj => by
 rw [List.getElem?_take] at hj
 split at hj
 ·rw [List.getElem?_drop] at hj
  have := h (i + j) v hj
  rwa [← Nat.add_assoc] at this
 ·cases hj
theorem RowAt.one {w : World} {b o : Nat} {l : List Value} (h : RowAt w b o l) {i : Nat} {v : Value} (hi : l[i]? = some v) : w.cell? ⟨b, o + i, none⟩ = some v := h i v hi

section
variable {P : Program} {n : Nat} {σ : List Ent} {c : Prop} {wb : World} {ty : TypeId}

theorem Yl {x : Operand} {v : Value} (h : Ev n σ c x v) : Rd P n σ c wb (.move x) ty v := fun d pos after g a ha hc w1 _ => by
 simp [execOp, h a ha hc]
theorem Wy {x : Operand} {v : Value} (h : Ev n σ c x v) : Rd P n σ c wb (.assign x) ty v := fun d pos after g a ha hc w1 _ => by
 simp [execOp, h a ha hc]
theorem Jl {x : Operand} {b : Addr} (h : Ev n σ c x (.pointer (some b))) : Rd P n σ c wb (.nilCheck x) ty (.pointer (some b)) := fun d pos after g a ha hc w1 _ => by
 simp [execOp, h a ha hc]
theorem Zz {x y : Operand} {g y' : Bool} (h : Ev n σ c x (.bool g)) (h1 : Ev n σ (c ∧ g = true) y (.bool y')) : Rd P n σ c wb (.pick x y (.const (.bool false))) ty (.bool (g && y')) := fun d pos after gd a ha hc w1 _ => by
 cases g with
 | false => simp [execOp, h a ha hc, asBool, Ztb]
 | true => simp [execOp, h a ha hc, asBool, h1 a ha ⟨hc, rfl⟩]
theorem Xh {x y : Operand} {g y' : Bool} (h : Ev n σ c x (.bool g)) (h1 : Ev n σ (c ∧ g = false) y (.bool y')) : Rd P n σ c wb (.pick x (.const (.bool true)) y) ty (.bool (g || y')) := fun d pos after gd a ha hc w1 _ => by
 cases g with
 | true => simp [execOp, h a ha hc, asBool, Ztb]
 | false => simp [execOp, h a ha hc, asBool, h1 a ha ⟨hc, rfl⟩]

theorem Zv {s k off b o : Nat} {x : Operand} (hf : Vl P s k = some off) (h : Ev n σ c x (.pointer (some ⟨b, o, none⟩))) :
  Rd P n σ c wb (.fieldAddr s x k) ty (.pointer (some ⟨b, o + off, none⟩)) := fun d pos after gd a ha hc w1 _ => by
 unfold Vl at hf
 split at hf
 ·rename_i fs hs
  split at hf
  ·rename_i f hk
   split at hf
   ·rename_i i hi
    split at hf
    ·cases hf
    ·rename_i hz
     injection hf with hf
     subst hf
     simp [execOp, h a ha hc, Instr.fieldAt, run_underlying hs, hk, Instr.sureAddr, fieldPlace, sizeOf, typeInfo, hi, hz, Addr.add_lit]
   ·cases hf
  ·cases hf
 ·cases hf

theorem Wzd {t : TypeId} (ht : tyOne P t = true) {w : World} {ad : Addr} {v : Value} (hc : w.cell? ad = some v) : (loadVar t ad).run P w = .ok v w := by
 unfold tyOne at ht
 split at ht <;> try (cases ht; done)
 rename_i d hd1 hd2 hd
 have : (isAgg t).run P w = .ok false w := by
  simp only [isAgg, Sem.run_bind, run_underlying hd, Result.andThen_ok]
  rfl
 simp [loadVar, this, hc]

theorem Yac {t : TypeId} {z : Nat} (ht : Ywb P t = some z) {w : World} {b o : Nat} {l : List Value} (hl : l.length = z) (hc : RowAt w b o l) :
  (loadVar t ⟨b, o, none⟩).run P w = .ok (.agg l.toArray) w := by
 have : (isAgg t).run P w = .ok true w ∧ (sizeOf t).run P w = .ok z w := by
  unfold Ywb at ht
  split at ht
  ·rename_i fs i hs hi
   injection ht with ht
   constructor
   ·simp only [isAgg, Sem.run_bind, run_underlying hs, Result.andThen_ok]; rfl
   ·simp [sizeOf, typeInfo, hi, ht]
  ·rename_i fs m i hs hi
   injection ht with ht
   constructor
   ·simp only [isAgg, Sem.run_bind, run_underlying hs, Result.andThen_ok]; rfl
   ·simp [sizeOf, typeInfo, hi, ht]
  ·cases ht
 have hload := run_loadCells_list (P := P) (w := w) ⟨b, o, none⟩ l (fun j v hj => by rw [Addr.add_lit]; exact hc j v hj)
 rw [hl] at hload
 simp [loadVar, this.1, this.2, hload]

theorem Ye {t b o : Nat} {x : Operand} {v : Value} (ht : tyOne P t = true) (h : Ev n σ c x (.pointer (some ⟨b, o, none⟩))) (hc : c → wb.cell? ⟨b, o, none⟩ = some v) :
  Rd P n σ c wb (.load t x) ty v := fun d pos after gd a ha hc' w1 hg => by
 simp [execOp, h a ha hc', Instr.loadAt, Instr.sureAddr, Wzd ht (Jra hg (hc hc'))]
theorem Xd {t b o z : Nat} {x : Operand} {l : List Value} (ht : Ywb P t = some z) (h : Ev n σ c x (.pointer (some ⟨b, o, none⟩))) (hl : l.length = z) (hc : c → RowAt wb b o l) :
  Rd P n σ c wb (.load t x) ty (.agg l.toArray) := fun d pos after gd a ha hc' w1 hg => by
 simp [execOp, h a ha hc', Instr.loadAt, Instr.sureAddr, Yac ht hl ((hc hc').grow hg)]

theorem Vf {x : Operand} {i : Nat} {vs : Array Value} {v : Value} (h : Ev n σ c x (.tuple vs)) (hv : vs[i]? = some v) : Rd P n σ c wb (.extract x i) ty v := fun d pos after gd a ha hc w1 _ => by
 simp [execOp, h a ha hc, Instr.extract, hv]

/-! integers -/
theorem Yfd {x : Int} (h : -9223372036854775808 ≤ x ∧ x ≤ 9223372036854775807) : IntKind.i64.wrap x = x := by
 rw [IntKind.wrap_i64]; omega
theorem Xob {op : BinOp} {t u : TypeId} {x y : Operand} {k : IntKind} {i j r : Int} (h : Ev n σ c x (.int k i)) (h' : Ev n σ c y (.int k j))
  (hr : c → Op.intArith op k i j = pure (.int k r)) (ho : op = .add ∨ op = .sub ∨ op = .mul) : Rd P n σ c wb (.binOp op t x y u) ty (.int k r) := fun d pos after gd a ha hc w1 _ => by
 rcases ho with rfl | rfl | rfl <;> simp [execOp, h a ha hc, h' a ha hc, eqGuard_at_int, binOp, hr hc]
theorem Ygd {t u : TypeId} {x y : Operand} {i j : Int} (h : Ev n σ c x (.int .i64 i)) (h' : Ev n σ c y (.int .i64 j)) (hr : c → -9223372036854775808 ≤ i + j ∧ i + j ≤ 9223372036854775807) :
  Rd P n σ c wb (.binOp .add t x y u) ty (.int .i64 (i + j)) := Xob h h' (fun hc => by simp [Op.intArith, Yfd (hr hc)]) (.inl rfl)
theorem Xxa {t u : TypeId} {x y : Operand} {i j : Int} (h : Ev n σ c x (.int .i64 i)) (h' : Ev n σ c y (.int .i64 j)) (hr : c → -9223372036854775808 ≤ i - j ∧ i - j ≤ 9223372036854775807) :
  Rd P n σ c wb (.binOp .sub t x y u) ty (.int .i64 (i - j)) := Xob h h' (fun hc => by simp [Op.intArith, Yfd (hr hc)]) (.inr (.inl rfl))
theorem Yte {t u : TypeId} {x y : Operand} {k : IntKind} {i j : Int} (h : Ev n σ c x (.int k i)) (h' : Ev n σ c y (.int k j)) :
  Rd P n σ c wb (.binOp .add t x y u) ty (.int k (k.wrap (i + j))) := Xob h h' (fun hc => by simp [Op.intArith]) (.inl rfl)
theorem Yhd {t u : TypeId} {x y : Operand} {k : IntKind} {i j : Int} (h : Ev n σ c x (.int k i)) (h' : Ev n σ c y (.int k j)) :
  Rd P n σ c wb (.binOp .sub t x y u) ty (.int k (k.wrap (i - j))) := Xob h h' (fun hc => by simp [Op.intArith]) (.inr (.inl rfl))
theorem Xnf {t u : TypeId} {x y : Operand} {k : IntKind} {i j : Int} (h : Ev n σ c x (.int k i)) (h' : Ev n σ c y (.int k j)) :
  Rd P n σ c wb (.binOp .mul t x y u) ty (.int k (k.wrap (i * j))) := Xob h h' (fun hc => by simp [Op.intArith]) (.inr (.inr rfl))
theorem Xof {t u : TypeId} {x y : Operand} {k : IntKind} {i j : Int} (h : Ev n σ c x (.int k i)) (h' : Ev n σ c y (.int k j)) (hz : c → j ≠ 0) :
  Rd P n σ c wb (.binOp .quo t x y u) ty (.int k (k.wrap (i.tdiv j))) := fun d pos after gd a ha hc w1 _ => by
 simp [execOp, h a ha hc, h' a ha hc, eqGuard_at_int, binOp, Op.intDiv, hz hc]
theorem Xpf {t u : TypeId} {x y : Operand} {k : IntKind} {i j : Int} (h : Ev n σ c x (.int k i)) (h' : Ev n σ c y (.int k j)) (hz : c → j ≠ 0) :
  Rd P n σ c wb (.binOp .rem t x y u) ty (.int k (i.tmod j)) := fun d pos after gd a ha hc w1 _ => by
 simp [execOp, h a ha hc, h' a ha hc, eqGuard_at_int, binOp, Op.intDiv, hz hc]
theorem Vt {t u : TypeId} {x y : Operand} {k : IntKind} {i j : Int} (h : Ev n σ c x (.int k i)) (h' : Ev n σ c y (.int k j)) : Rd P n σ c wb (.binOp .eql t x y u) ty (.bool (decide (i = j))) := fun d pos after gd a ha hc w1 _ => by
 simp [execOp, h a ha hc, h' a ha hc, eqGuard_at_int, binOp, Op.intCmp]; rfl
theorem Wba {t u : TypeId} {x y : Operand} {k : IntKind} {i j : Int} (h : Ev n σ c x (.int k i)) (h' : Ev n σ c y (.int k j)) : Rd P n σ c wb (.binOp .neq t x y u) ty (.bool (!decide (i = j))) := fun d pos after gd a ha hc w1 _ => by
 simp [execOp, h a ha hc, h' a ha hc, eqGuard_at_int, binOp, Op.intCmp]; rfl
theorem Ujf {t u : TypeId} {x y : Operand} {k : IntKind} {i j : Int} (h : Ev n σ c x (.int k i)) (h' : Ev n σ c y (.int k j)) : Rd P n σ c wb (.binOp .lss t x y u) ty (.bool (decide (i < j))) := fun d pos after gd a ha hc w1 _ => by
 simp [execOp, h a ha hc, h' a ha hc, eqGuard_at_int, binOp, Op.intCmp]
theorem Ufb {t u : TypeId} {x y : Operand} {k : IntKind} {i j : Int} (h : Ev n σ c x (.int k i)) (h' : Ev n σ c y (.int k j)) : Rd P n σ c wb (.binOp .leq t x y u) ty (.bool (decide (i ≤ j))) := fun d pos after gd a ha hc w1 _ => by
 simp [execOp, h a ha hc, h' a ha hc, eqGuard_at_int, binOp, Op.intCmp]
theorem Yue {t u : TypeId} {x y : Operand} {k : IntKind} {i j : Int} (h : Ev n σ c x (.int k i)) (h' : Ev n σ c y (.int k j)) : Rd P n σ c wb (.binOp .gtr t x y u) ty (.bool (decide (j < i))) := fun d pos after gd a ha hc w1 _ => by
 simp [execOp, h a ha hc, h' a ha hc, eqGuard_at_int, binOp, Op.intCmp]
theorem Ugb {t u : TypeId} {x y : Operand} {k : IntKind} {i j : Int} (h : Ev n σ c x (.int k i)) (h' : Ev n σ c y (.int k j)) : Rd P n σ c wb (.binOp .geq t x y u) ty (.bool (decide (j ≤ i))) := fun d pos after gd a ha hc w1 _ => by
 simp [execOp, h a ha hc, h' a ha hc, eqGuard_at_int, binOp, Op.intCmp]
theorem Qvf {t u : TypeId} {x y : Operand} {i j : Bool} (ht : P.underlying t = some .bool) (h : Ev n σ c x (.bool i)) (h' : Ev n σ c y (.bool j)) : Rd P n σ c wb (.binOp .eql t x y u) ty (.bool (i == j)) := fun d pos after gd a ha hc w1 _ => by
 simp [execOp, h a ha hc, h' a ha hc, eqGuard_at_bool, binOp, Op.equal, Op.maxDepth, run_equalIn_bool' w1 9999 t i j ht]
theorem Qwf {t u : TypeId} {x y : Operand} {i j : Bool} (ht : P.underlying t = some .bool) (h : Ev n σ c x (.bool i)) (h' : Ev n σ c y (.bool j)) : Rd P n σ c wb (.binOp .neq t x y u) ty (.bool (i != j)) := fun d pos after gd a ha hc w1 _ => by
 simp [execOp, h a ha hc, h' a ha hc, eqGuard_at_bool, binOp, Op.equal, Op.maxDepth, run_equalIn_bool' w1 9999 t i j ht]; cases i <;> cases j <;> rfl
theorem Xqa {t : TypeId} {x : Operand} {i : Bool} (h : Ev n σ c x (.bool i)) : Rd P n σ c wb (.unOp .not t x) ty (.bool (!i)) := fun d pos after gd a ha hc w1 _ => by
 simp [execOp, h a ha hc, Op.unary]
theorem Yid {t : TypeId} {x : Operand} {k : IntKind} {i : Int} (h : Ev n σ c x (.int k i)) : Rd P n σ c wb (.unOp .neg t x) ty (.int k (k.wrap (0 - i))) := fun d pos after gd a ha hc w1 _ => by
 simp [execOp, h a ha hc, Op.unary, Op.intArith]

/-! strings -/
@[reducible] def Str (l : List UInt8) : Value := .string ⟨l.toArray⟩
theorem Yya {t u : TypeId} {x y : Operand} {i j : List UInt8} (h : Ev n σ c x (Str i)) (h' : Ev n σ c y (Str j)) : Rd P n σ c wb (.binOp .eql t x y u) ty (.bool (decide (i = j))) := fun d pos after gd a ha hc w1 _ => by
 simp [execOp, h a ha hc, h' a ha hc, eqGuard_at_string, binOp, Op.stringOp]; rw [Bool.eq_iff_iff]; simp
theorem Jvb {t u : TypeId} {x y : Operand} {i j : List UInt8} (h : Ev n σ c x (Str i)) (h' : Ev n σ c y (Str j)) : Rd P n σ c wb (.binOp .neq t x y u) ty (.bool (!decide (i = j))) := fun d pos after gd a ha hc w1 _ => by
 simp [execOp, h a ha hc, h' a ha hc, eqGuard_at_string, binOp, Op.stringOp]; rw [Bool.eq_iff_iff]; simp
theorem Jr {t : TypeId} (h : Zzc P t = true) : P.underlying t = some .string := by
 unfold Zzc at h; split at h
 ·assumption
 ·cases h
theorem Vha {t : TypeId} {x : Operand} {i : List UInt8} (ht : Zzc P t = true) (h : Ev n σ c x (Str i)) : Rd P n σ c wb (.call { callee := .builtin .len, args := #[x], argTypes := #[t] }) ty (.int .i64 i.length) := fun d pos after gd a ha hc w1 _ => by
 have hr := run_len_string (P := P) w1 t ty ⟨i.toArray⟩ (Jr ht)
 simp [execOp, resolve, invoke, builtin, h a ha hc, hr, ByteArray.size, goInt]
theorem Vdb {t : TypeId} {x y : Operand} {l : List UInt8} {k : IntKind} {i : Int} (ht : Zzc P t = true) (h : Ev n σ c x (Str l)) (h' : Ev n σ c y (.int k i)) (hi : c → 0 ≤ i ∧ i < l.length) :
  Rd P n σ c wb (.index t x y) ty (.int .u8 (l.getD i.toNat 0).toNat) := fun d pos after gd a ha hc w1 _ => by
 obtain ⟨h0, h1⟩ := hi hc
 have hlt : i.toNat < l.length := by omega
 have hg : (⟨l.toArray⟩ : ByteArray)[i.toNat]? = some l[i.toNat] := by
  rw [ByteArray.getElem?_lt' _ _ (by simpa [ByteArray.size] using hlt)]; rfl
 simp [execOp, h a ha hc, h' a ha hc, Instr.index, asIntOf, run_underlying (Jr ht), h0, hg, List.getD_eq_getElem?_getD, hlt]
theorem Yjd {t : TypeId} {x y z : Operand} {l : List UInt8} {k k' : IntKind} {i j : Int} (ht : Zzc P t = true) (h : Ev n σ c x (Str l)) (h' : Ev n σ c y (.int k i)) (h'' : Ev n σ c z (.int k' j)) (hi : c → 0 ≤ i ∧ i ≤ j ∧ j ≤ l.length) :
  Rd P n σ c wb (.slice t x (some y) (some z) none) ty (Str ((l.drop i.toNat).take (j.toNat - i.toNat))) := fun d pos after gd a ha hc w1 _ => by
 obtain ⟨h0, h1, h2⟩ := hi hc
 have e1 : (0 ≤ j ∧ j ≤ ((⟨l.toArray⟩ : ByteArray).size : Int)) := by simp [ByteArray.size]; omega
 have e2 : (0 ≤ i ∧ i ≤ (j.toNat : Int)) := by omega
 simp only [execOp, h a ha hc, h' a ha hc, h'' a ha hc, Instr.sliceAt, Option.map_some, Option.map_none, Sem.run_bind, run_underlying (Jr ht), Result.andThen_ok]
 simp [Instr.slice, run_underlying (Jr ht), Instr.sliceBounds, Instr.sliceBound, asIntOf, e1, e2, ByteArray.extract_mk]
 intro hh
 omega
theorem Ybc {t : TypeId} {x y : Operand} {l : List UInt8} {k : IntKind} {i : Int} (ht : Zzc P t = true) (h : Ev n σ c x (Str l)) (h' : Ev n σ c y (.int k i)) (hi : c → 0 ≤ i ∧ i ≤ l.length) :
  Rd P n σ c wb (.slice t x (some y) none none) ty (Str (l.drop i.toNat)) := fun d pos after gd a ha hc w1 _ => by
 obtain ⟨h0, h2⟩ := hi hc
 have e2 : (0 ≤ i ∧ i ≤ ((⟨l.toArray⟩ : ByteArray).size : Int)) := by simp [ByteArray.size]; omega
 have e3 : (l.drop i.toNat).take ((⟨l.toArray⟩ : ByteArray).size - i.toNat) = l.drop i.toNat := by
  rw [List.take_of_length_le]; simp [ByteArray.size]
 simp only [execOp, h a ha hc, h' a ha hc, Instr.sliceAt, Option.map_some, Option.map_none, Sem.run_bind, run_underlying (Jr ht), Result.andThen_ok]
 simp [Instr.slice, run_underlying (Jr ht), Instr.sliceBounds, Instr.sliceBound, asIntOf, e2, ByteArray.extract_mk, e3]
theorem Wse {t : TypeId} {x z : Operand} {l : List UInt8} {k' : IntKind} {j : Int} (ht : Zzc P t = true) (h : Ev n σ c x (Str l)) (h'' : Ev n σ c z (.int k' j)) (hi : c → 0 ≤ j ∧ j ≤ l.length) :
  Rd P n σ c wb (.slice t x none (some z) none) ty (Str (l.take j.toNat)) := fun d pos after gd a ha hc w1 _ => by
 obtain ⟨h1, h2⟩ := hi hc
 have e1 : (0 ≤ j ∧ j ≤ ((⟨l.toArray⟩ : ByteArray).size : Int)) := by simp [ByteArray.size]; omega
 simp only [execOp, h a ha hc, h'' a ha hc, Instr.sliceAt, Option.map_some, Option.map_none, Sem.run_bind, run_underlying (Jr ht), Result.andThen_ok]
 simp [Instr.slice, run_underlying (Jr ht), Instr.sliceBounds, Instr.sliceBound, asIntOf, e1, ByteArray.extract_mk]

/-! slices -/
theorem Jc {t e z by_ : Nat} (h : tyElem P t = some (e, z, by_)) : P.underlying t = some (.slice e) ∧ ∃ i, P.info? e = some i ∧ i.size = z ∧ i.bytes = by_ := by
 unfold tyElem at h
 split at h
 ·rename_i e' he
  cases hi : P.info? e' with
  | none => simp [hi] at h
  | some i =>
   simp only [hi, Option.map_some, Option.some.injEq, Prod.mk.injEq] at h
   obtain ⟨rfl, h1, h2⟩ := h
   exact ⟨he, i, hi, h1, h2⟩
 ·cases h
theorem Zea {t e z by_ : Nat} {x : Operand} {b : Option Addr} {m q : Nat} (ht : tyElem P t = some (e, z, by_)) (h : Ev n σ c x (.slice b m q)) : Rd P n σ c wb (.call { callee := .builtin .len, args := #[x], argTypes := #[t] }) ty (.int .i64 m) := fun d pos after gd a ha hc w1 _ => by
 obtain ⟨hu, i, hi, hz, _⟩ := Jc ht
 have he : P.underlying t = some (.slice (P.elem t)) := by rw [hu]; simp [Program.elem, hu]
 have hr := run_len_slice (P := P) w1 t ty b m q he
 simp [execOp, resolve, invoke, builtin, h a ha hc, hr, goInt]
theorem Jwb {t e z by_ : Nat} {x y : Operand} {b o m q : Nat} {k : IntKind} {i : Int} (ht : tyElem P t = some (e, z, by_)) (h : Ev n σ c x (.slice (some ⟨b, o, none⟩) m q)) (h' : Ev n σ c y (.int k i)) (hi : c → 0 ≤ i ∧ i < m) :
  Rd P n σ c wb (.indexAddr t x y) ty (.pointer (some ⟨b, o + i.toNat * z, none⟩)) := fun d pos after gd a ha hc w1 _ => by
 obtain ⟨hu, i', hi', hz, _⟩ := Jc ht
 obtain ⟨h0, h1⟩ := hi hc
 simp [execOp, h a ha hc, h' a ha hc, Instr.indexAt, asIntOf, run_underlying hu, h0, h1, sizeOf, typeInfo, hi', hz, Addr.add_lit]
end

def Ret (P : Program) (f : FuncId) (args : Array Value) (w : World) (R : Value → World → Prop) : Prop := Calls P f args w fun e w' => ∃ v, e = .returned v ∧ R v w'
theorem Ret.mono {P : Program} {f : FuncId} {args : Array Value} {w : World} {R R' : Value → World → Prop} (h : Ret P f args w R) (hr : ∀ v w', R v w' → R' v w') : Ret P f args w R' :=
 Calls.mono h fun _ _ ⟨v, e, k⟩ => ⟨v, e, hr v _ k⟩
theorem Ret.calls {P : Program} {f : FuncId} {args : Array Value} {w : World} {R : Value → World → Prop} (h : Ret P f args w R) {R' : Ending → World → Prop} (hr : ∀ v w', R v w' → R' (.returned v) w') : Calls P f args w R' :=
 Calls.mono h fun e w' ⟨v, he, k⟩ => by subst he; exact hr v w' k

def Blk (w : World) (b : Nat) (e : TypeId) (l : List Value) : Prop := w.heap[b]? = some (.cells l.toArray e (0, 0))
theorem Blk.lt {w : World} {b : Nat} {e : TypeId} {l : List Value} (h : Blk w b e l) : b < w.heap.size := by
 rcases Nat.lt_or_ge b w.heap.size with hlt | hge
 ·exact hlt
 ·unfold Blk at h; rw [Array.getElem?_eq_none hge] at h; cases h
theorem Blk.row {w : World} {b : Nat} {e : TypeId} {l : List Value} (h : Blk w b e l) : RowAt w b 0 l := fun j v hj => by
 unfold Blk at h
 simp [World.cell?, h, hj]
theorem Blk.at_ {w : World} {b : Nat} {e : TypeId} {l : List Value} (h : Blk w b e l) {i : Nat} {v : Value} (hi : l[i]? = some v) : w.cell? ⟨b, i, none⟩ = some v := by
 have := h.row i v hi
 rwa [Nat.zero_add] at this
theorem Blk.grow {w w1 : World} {b : Nat} {e : TypeId} {l : List Value} (h : Blk w b e l) (hg : G w w1) : Blk w1 b e l := (hg.block h.lt).trans h
theorem Blk.keep {w w1 : World} {b : Nat} {e : TypeId} {l : List Value} {row : Option Nat} (h : Blk w b e l) (hg : w.grownBy w1 row) (hne : some b ≠ row) : Blk w1 b e l := (hg.block b h.lt hne).trans h

structure New (w w1 : World) (b : Nat) (e : TypeId) (l : List Value) : Prop where
 at_ : b = w.heap.size
 blk : Blk w1 b e l
 g : G w w1
 size : w1.heap.size = w.heap.size + 1
theorem New.ge {a w w1 : World} {b : Nat} {e : TypeId} {l : List Value} (h : New w w1 b e l) (g : G a w) : a.heap.size ≤ b := by have := g.size; have := h.at_; omega
theorem New.ne {w w1 : World} {b : Nat} {e : TypeId} {l : List Value} (h : New w w1 b e l) {b' : Nat} {e' : TypeId} {l' : List Value} (hB : Blk w b' e' l') : b ≠ b' := by have := hB.lt; have := h.at_; omega
theorem Yra (w : World) (e : TypeId) (l : List Value) : New w (w.alloc (.cells l.toArray e)) w.heap.size e l :=
 ⟨rfl, by unfold Blk; exact heap_alloc_new w _, (Below.refl _ _).alloc (Nat.le_refl _) _, by simp⟩

theorem G.only {w w1 : World} (h : G w w1) (row : Option Nat) : w.grownBy w1 row := ⟨h.os, h.tape, h.output, h.size, fun k hk _ => h.block hk⟩
section
variable (P : Program) (Z : List PanicEntry → Act → World → Prop) (ops : List Oper) (cl : List Nat) (lv : List Bool) (W0 : World) (n : Nat) (K : Act → World → Prop)
def SR (k : Nat) (l : List Oper) (σ : List Ent) (w : World) : Prop :=
 (∀ j o, l[j]? = some o → ops.toArray[k + j]? = some o) → ∀ a, Kn n σ a → RS P Z ops.toArray (clOf cl) (lvOf lv) W0 K (List.range' k l.length) a w
end

section
variable {P : Program} {Z : List PanicEntry → Act → World → Prop} {ops : List Oper} {cl : List Nat} {lv : List Bool} {W0 : World} {n : Nat} {K : Act → World → Prop} {k : Nat} {rest : List Oper} {σ : List Ent} {w : World} {d : Nat} {op : Op} {ty : TypeId} {pos : String} {after : Array Edge} {v : Value}

theorem Zb (h : ∀ a, Kn n σ a → K a w) : SR P Z ops cl lv W0 n K k [] σ w := fun _ a ha => h a ha
theorem Wh {l : List Oper} (τ : List Ent) (hs : Sub τ σ) (h : SR P Z ops cl lv W0 n K k l τ w) : SR P Z ops cl lv W0 n K k l σ w := fun hl a ha => h hl a (ha.sub hs)

theorem Zya {l : List Oper} {o : Oper} (hl : ∀ j o', (o :: l)[j]? = some o' → ops.toArray[k + j]? = some o') : ops.toArray[k]? = some o ∧ ∀ j o', l[j]? = some o' → ops.toArray[k + 1 + j]? = some o' :=
 ⟨hl 0 o rfl, fun j o' h => by have := hl (j + 1) o' h; rwa [show k + (j + 1) = k + 1 + j by omega] at this⟩

theorem Jxb {d : Option Nat} {y : Nat → Option Bool} : Region.wanted ⟨d, op, ty, pos, after, none⟩ y = true := rfl

theorem Qkb (hb : (Nat.beq (clOf cl k) 0 && lvOf lv k && Nat.blt d n) = true) (hr : Rd P n σ True w op ty v) (h : SR P Z ops cl lv W0 n K (k + 1) rest ((d, True, v) :: σ) w) :
  SR P Z ops cl lv W0 n K k (⟨some d, op, ty, pos, after, none⟩ :: rest) σ w := fun hl a ha => by
 obtain ⟨h0, h1⟩ := Zya hl
 simp only [Bool.and_eq_true] at hb
 obtain ⟨⟨hc, hv⟩, hd⟩ := hb
 rw [List.length_cons, List.range'_succ]
 refine ⟨_, h0, ?_⟩
 have hc := Nat.eq_of_beq_eq_true hc
 rw [if_pos (.inl hc)]
 refine ⟨v, fun _ w1 hg => ?_, (fun hn => by cases hn), h h1 _ (ha.put hd (fun _ => rfl) (fun hn => absurd trivial hn))⟩
 have hg := hg.resolve_left (by omega)
 rw [if_pos hv] at hg
 exact hr _ _ _ _ a ha trivial w1 hg
theorem Vua (hb : (Nat.beq (clOf cl k) 0 && !lvOf lv k && Nat.blt d n) = true) (hr : Rd P n σ True W0 op ty v) (h : SR P Z ops cl lv W0 n K (k + 1) rest ((d, True, v) :: σ) w) :
  SR P Z ops cl lv W0 n K k (⟨some d, op, ty, pos, after, none⟩ :: rest) σ w := fun hl a ha => by
 obtain ⟨h0, h1⟩ := Zya hl
 simp only [Bool.and_eq_true, Bool.not_eq_true'] at hb
 obtain ⟨⟨hc, hv⟩, hd⟩ := hb
 rw [List.length_cons, List.range'_succ]
 refine ⟨_, h0, ?_⟩
 have hc := Nat.eq_of_beq_eq_true hc
 rw [if_pos (.inl hc)]
 refine ⟨v, fun _ w1 hg => ?_, (fun hn => by cases hn), h h1 _ (ha.put hd (fun _ => rfl) (fun hn => absurd trivial hn))⟩
 have hg := hg.resolve_left (by omega)
 rw [if_neg (by rw [hv]; simp)] at hg
 exact hr _ _ _ _ a ha trivial w1 hg

theorem Zub {g t : Nat} {want b : Bool} {c0 : Prop} {a : Act} (hgd : ((ops.toArray[g]?).bind (·.dst)) = some t) (hlk : look σ t = some (c0, .bool b)) (ha : Kn n σ a) {d : Option Nat} :
  Region.wanted ⟨d, op, ty, pos, after, some (g, want)⟩ (yielded ops.toArray a.tmps) = true ↔ c0 ∧ b = want := by
 obtain ⟨h1, h2⟩ := ha.2.2 t c0 (.bool b) hlk
 unfold Region.wanted yielded
 simp only [hgd, Option.bind_some]
 by_cases hc : c0
 ·rw [h1 hc]; simp [hc]
 ·rw [h2 hc]; simp [hc, undef]

open Classical in
theorem Yj {g t : Nat} {want b : Bool} {c0 : Prop} (hb : (Nat.beq (clOf cl k) 0 && lvOf lv k && Nat.blt d n) = true) (hgd : ((ops.toArray[g]?).bind (·.dst)) = some t) (hlk : look σ t = some (c0, .bool b))
  (hr : Rd P n σ (c0 ∧ b = want) w op ty v) (h : SR P Z ops cl lv W0 n K (k + 1) rest ((d, c0 ∧ b = want, v) :: σ) w) :
  SR P Z ops cl lv W0 n K k (⟨some d, op, ty, pos, after, some (g, want)⟩ :: rest) σ w := fun hl a ha => by
 obtain ⟨h0, h1⟩ := Zya hl
 simp only [Bool.and_eq_true] at hb
 obtain ⟨⟨hc, hv⟩, hd⟩ := hb
 rw [List.length_cons, List.range'_succ]
 refine ⟨_, h0, ?_⟩
 have hc := Nat.eq_of_beq_eq_true hc
 rw [if_pos (.inl hc)]
 have hw := Zub (op := op) (ty := ty) (pos := pos) (after := after) (want := want) (d := some d) hgd hlk ha
 refine ⟨if c0 ∧ b = want then v else undef, fun hwt w1 hg => ?_, fun hn => ?_, h h1 _ (ha.put hd (fun hh => if_pos hh) (fun hh => if_neg hh))⟩
 ·have hg := hg.resolve_left (by omega)
  rw [if_pos hv] at hg
  rw [if_pos (hw.1 hwt)]
  exact hr _ _ _ _ a ha (hw.1 hwt) w1 hg
 ·rw [if_neg (fun hh => by rw [hw.2 hh] at hn; cases hn)]
open Classical in
theorem Yi (hb : (Nat.beq (clOf cl k) 3 && Nat.blt d n) = true) (hr : ∀ wb, Rd P n σ True wb op ty v) (h : SR P Z ops cl lv W0 n K (k + 1) rest ((d, True, v) :: σ) w) :
  SR P Z ops cl lv W0 n K k (⟨some d, op, ty, pos, after, none⟩ :: rest) σ w := fun hl a ha => by
 obtain ⟨h0, h1⟩ := Zya hl
 simp only [Bool.and_eq_true] at hb
 rw [List.length_cons, List.range'_succ]
 refine ⟨_, h0, ?_⟩
 rw [if_pos (.inr (Nat.eq_of_beq_eq_true hb.1))]
 exact ⟨v, fun _ w1 _ => hr w1 _ _ _ _ a ha trivial w1 (G.refl _), (fun hn => by cases hn), h h1 _ (ha.put hb.2 (fun _ => rfl) (fun hn => absurd trivial hn))⟩
open Classical in
theorem Zn {g t : Nat} {want b : Bool} {c0 : Prop} (hb : (Nat.beq (clOf cl k) 3 && Nat.blt d n) = true) (hgd : ((ops.toArray[g]?).bind (·.dst)) = some t) (hlk : look σ t = some (c0, .bool b))
  (hr : ∀ wb, Rd P n σ (c0 ∧ b = want) wb op ty v) (h : SR P Z ops cl lv W0 n K (k + 1) rest ((d, c0 ∧ b = want, v) :: σ) w) :
  SR P Z ops cl lv W0 n K k (⟨some d, op, ty, pos, after, some (g, want)⟩ :: rest) σ w := fun hl a ha => by
 obtain ⟨h0, h1⟩ := Zya hl
 simp only [Bool.and_eq_true] at hb
 rw [List.length_cons, List.range'_succ]
 refine ⟨_, h0, ?_⟩
 rw [if_pos (.inr (Nat.eq_of_beq_eq_true hb.1))]
 have hw := Zub (op := op) (ty := ty) (pos := pos) (after := after) (want := want) (d := some d) hgd hlk ha
 refine ⟨if c0 ∧ b = want then v else undef, fun hwt w1 _ => ?_, fun hn => ?_, h h1 _ (ha.put hb.2 (fun hh => if_pos hh) (fun hh => if_neg hh))⟩
 ·rw [if_pos (hw.1 hwt)]
  exact hr w1 _ _ _ _ a ha (hw.1 hwt) w1 (G.refl _)
 ·rw [if_neg (fun hh => by rw [hw.2 hh] at hn; cases hn)]

def RunV (P : Program) (n : Nat) (σ : List Ent) (c : Prop) (w : World) (op : Op) (ty : TypeId) (v : Value) (w' : World) : Prop :=
 ∀ (d : Option Tmp) (pos : String) (after : Array Edge) (g : Option (Nat × Bool)) (a : Act), Kn n σ a → c → (execOp a.eval ⟨d, op, ty, pos, after, g⟩).run P w = .ok (.value v) w'
def RunS (P : Program) (n : Nat) (σ : List Ent) (c : Prop) (w : World) (op : Op) (ty : TypeId) (w' : World) : Prop :=
 ∀ (d : Option Tmp) (pos : String) (after : Array Edge) (g : Option (Nat × Bool)) (a : Act), Kn n σ a → c → (execOp a.eval ⟨d, op, ty, pos, after, g⟩).run P w = .ok .skip w'
def RunC (P : Program) (n : Nat) (σ : List Ent) (c : Prop) (w : World) (op : Op) (ty : TypeId) (f : FuncId) (args : Array Value) : Prop :=
 ∀ (d : Option Tmp) (pos : String) (after : Array Edge) (g : Option (Nat × Bool)) (a : Act), Kn n σ a → c → (execOp a.eval ⟨d, op, ty, pos, after, g⟩).run P w = .ok (.enter f args) w

theorem Uwb {w' : World} (hb : (!Nat.beq (clOf cl k) 0 && !Nat.beq (clOf cl k) 3 && Nat.blt d n) = true) (hr : RunV P n σ True w op ty v w') (hg : clOf cl k = 1 → G w w') (h : SR P Z ops cl lv W0 n K (k + 1) rest ((d, True, v) :: σ) w') :
  SR P Z ops cl lv W0 n K k (⟨some d, op, ty, pos, after, none⟩ :: rest) σ w := fun hl a ha => by
 obtain ⟨h0, h1⟩ := Zya hl
 simp only [Bool.and_eq_true, Bool.not_eq_true'] at hb
 rw [List.length_cons, List.range'_succ]
 refine ⟨_, h0, ?_⟩
 rw [if_neg (fun he => by rcases he with he | he <;> rw [he] at hb <;> simp at hb), if_pos Jxb]
 exact .inl ⟨v, w', hr _ _ _ _ a ha trivial, fun hh => hg (by simpa using hh), h h1 _ (ha.put hb.2 (fun _ => rfl) (fun hn => absurd trivial hn))⟩
theorem Xqf {w' : World} (hb : Nat.beq (clOf cl k) 2 = true) (hr : RunS P n σ True w op ty w') (h : SR P Z ops cl lv W0 n K (k + 1) rest σ w') :
  SR P Z ops cl lv W0 n K k (⟨none, op, ty, pos, after, none⟩ :: rest) σ w := fun hl a ha => by
 obtain ⟨h0, h1⟩ := Zya hl
 have hc := Nat.eq_of_beq_eq_true hb
 rw [List.length_cons, List.range'_succ]
 refine ⟨_, h0, ?_⟩
 rw [if_neg (by omega), if_pos Jxb]
 exact .inr (.inl ⟨w', hr _ _ _ _ a ha trivial, fun hh => by rw [hc] at hh; simp at hh, h h1 _ ha⟩)
theorem Ya {f : FuncId} {args : Array Value} {R : Value → World → Prop} (hb : (!Nat.beq (clOf cl k) 0 && !Nat.beq (clOf cl k) 3 && Nat.blt d n) = true) (hr : RunC P n σ True w op ty f args) (hC : Ret P f args w R)
  (h : ∀ v w', R v w' → (clOf cl k = 1 → G w w') ∧ SR P Z ops cl lv W0 n K (k + 1) rest ((d, True, v) :: σ) w') :
  SR P Z ops cl lv W0 n K k (⟨some d, op, ty, pos, after, none⟩ :: rest) σ w := fun hl a ha => by
 obtain ⟨h0, h1⟩ := Zya hl
 simp only [Bool.and_eq_true, Bool.not_eq_true'] at hb
 rw [List.length_cons, List.range'_succ]
 refine ⟨_, h0, ?_⟩
 rw [if_neg (fun he => by rcases he with he | he <;> rw [he] at hb <;> simp at hb), if_pos Jxb]
 refine .inr (.inr (.inl ⟨f, args, hr _ _ _ _ a ha trivial, Calls.mono hC fun e w' ⟨v, he, hv⟩ => .inl ?_⟩))
 obtain ⟨q1, q2⟩ := h v w' hv
 exact ⟨v, he, fun hh => q1 (by simpa using hh), q2 h1 _ (ha.put hb.2 (fun _ => rfl) (fun hn => absurd trivial hn))⟩
theorem Qhe {g t : Nat} {want b : Bool} {c0 : Prop} {f : FuncId} {args : Array Value} {R : Value → World → Prop} (hb : (!Nat.beq (clOf cl k) 0 && !Nat.beq (clOf cl k) 3 && Nat.blt d n) = true)
  (hgd : ((ops.toArray[g]?).bind (·.dst)) = some t) (hlk : look σ t = some (c0, .bool b)) (hr : c0 ∧ b = want → RunC P n σ (c0 ∧ b = want) w op ty f args) (hC : c0 ∧ b = want → Ret P f args w R)
  (h : ∀ v w', (c0 ∧ b = want) → R v w' → (clOf cl k = 1 → G w w') ∧ SR P Z ops cl lv W0 n K (k + 1) rest ((d, c0 ∧ b = want, v) :: σ) w')
  (h' : ¬ (c0 ∧ b = want) → SR P Z ops cl lv W0 n K (k + 1) rest ((d, c0 ∧ b = want, undef) :: σ) w) :
  SR P Z ops cl lv W0 n K k (⟨some d, op, ty, pos, after, some (g, want)⟩ :: rest) σ w := fun hl a ha => by
 obtain ⟨h0, h1⟩ := Zya hl
 simp only [Bool.and_eq_true, Bool.not_eq_true'] at hb
 rw [List.length_cons, List.range'_succ]
 have hw := Zub (op := op) (ty := ty) (pos := pos) (after := after) (want := want) (d := some d) hgd hlk ha
 refine ⟨_, h0, ?_⟩
 rw [if_neg (fun he => by rcases he with he | he <;> rw [he] at hb <;> simp at hb)]
 by_cases hh : c0 ∧ b = want
 ·rw [if_pos (hw.2 hh)]
  refine .inr (.inr (.inl ⟨f, args, hr hh _ _ _ _ a ha hh, Calls.mono (hC hh) fun e w' ⟨v, he, hv⟩ => .inl ?_⟩))
  obtain ⟨q1, q2⟩ := h v w' hh hv
  exact ⟨v, he, fun hq => q1 (by simpa using hq), q2 h1 _ (ha.put hb.2 (fun _ => rfl) (fun hn => absurd hh hn))⟩
 ·rw [if_neg (fun hq => hh (hw.1 hq))]
  exact h' hh h1 _ (ha.put hb.2 (fun hq => absurd hq hh) (fun _ => rfl))
theorem Xk {f : FuncId} {args : Array Value} (hb : (!Nat.beq (clOf cl k) 0 && !Nat.beq (clOf cl k) 3 && Nat.blt d n) = true) (hr : RunC P n σ True w op ty f args) (hC : Ret P f args w fun u w' => u = v ∧ G w w')
  (h : ∀ w', G w w' → SR P Z ops cl lv W0 n K (k + 1) rest ((d, True, v) :: σ) w') :
  SR P Z ops cl lv W0 n K k (⟨some d, op, ty, pos, after, none⟩ :: rest) σ w :=
 Ya hb hr hC fun u w' ⟨hu, hg⟩ => ⟨fun _ => hg, by subst hu; exact h w' hg⟩

theorem We {g t : Nat} {want b : Bool} {c0 : Prop} {f : FuncId} {args : Array Value} (hb : (!Nat.beq (clOf cl k) 0 && !Nat.beq (clOf cl k) 3 && Nat.blt d n) = true) (hgd : ((ops.toArray[g]?).bind (·.dst)) = some t) (hlk : look σ t = some (c0, .bool b))
  (hr : c0 ∧ b = want → RunC P n σ (c0 ∧ b = want) w op ty f args) (hC : c0 ∧ b = want → Ret P f args w fun u w' => u = v ∧ G w w')
  (h : ∀ w', G w w' → SR P Z ops cl lv W0 n K (k + 1) rest ((d, c0 ∧ b = want, v) :: σ) w') :
  SR P Z ops cl lv W0 n K k (⟨some d, op, ty, pos, after, some (g, want)⟩ :: rest) σ w := fun hl a ha => by
 obtain ⟨h0, h1⟩ := Zya hl
 simp only [Bool.and_eq_true, Bool.not_eq_true'] at hb
 rw [List.length_cons, List.range'_succ]
 have hw := Zub (op := op) (ty := ty) (pos := pos) (after := after) (want := want) (d := some d) hgd hlk ha
 refine ⟨_, h0, ?_⟩
 rw [if_neg (fun he => by rcases he with he | he <;> rw [he] at hb <;> simp at hb)]
 by_cases hh : c0 ∧ b = want
 ·rw [if_pos (hw.2 hh)]
  refine .inr (.inr (.inl ⟨f, args, hr hh _ _ _ _ a ha hh, Calls.mono (hC hh) fun e w' ⟨u, he, hu, hg⟩ => .inl ?_⟩))
  subst hu
  exact ⟨u, he, fun _ => hg, h w' hg h1 _ (ha.put hb.2 (fun _ => rfl) (fun hn => absurd hh hn))⟩
 ·rw [if_neg (fun hq => hh (hw.1 hq))]
  exact h w (G.refl w) h1 _ (ha.put hb.2 (fun hq => absurd hq hh) (fun _ => rfl))
/-! the operations that make memory -/
theorem Wq {elem : TypeId} {x : Operand} {u : Value} {l : List Value} (hb : (!Nat.beq (clOf cl k) 0 && !Nat.beq (clOf cl k) 3 && Nat.blt d n) = true) (hx : Ev n σ True x u) (hl : u.cells = l.toArray)
  (h : ∀ b w1, New w w1 b elem l → SR P Z ops cl lv W0 n K (k + 1) rest ((d, True, .pointer (some ⟨b, 0, none⟩)) :: σ) w1) :
  SR P Z ops cl lv W0 n K k (⟨some d, .box elem x, ty, pos, after, none⟩ :: rest) σ w :=
 Uwb hb (w' := w.alloc (.cells l.toArray elem)) (fun d pos after g a ha _ => by simp [execOp, hx a ha trivial, Instr.box, newVar, newRow, hl]) (fun _ => (Yra w elem l).g) (h _ _ (Yra w elem l))

def zeroOf (P : Program) (t : TypeId) : Option Value := match P.info? t with | some i => i.zero | none => none
theorem Ula {t : TypeId} {z : Value} (h : zeroOf P t = some z) : ∃ i, P.info? t = some i ∧ i.zero = some z := by
 unfold zeroOf at h
 split at h
 ·exact ⟨_, by assumption, h⟩
 ·cases h
theorem Yh {elem : TypeId} {z : Value} {l : List Value} (hb : (!Nat.beq (clOf cl k) 0 && !Nat.beq (clOf cl k) 3 && Nat.blt d n) = true) (hz : zeroOf P elem = some z) (hl : z.cells = l.toArray)
  (h : ∀ b w1, New w w1 b elem l → SR P Z ops cl lv W0 n K (k + 1) rest ((d, True, .pointer (some ⟨b, 0, none⟩)) :: σ) w1) :
  SR P Z ops cl lv W0 n K k (⟨some d, .alloc elem, ty, pos, after, none⟩ :: rest) σ w := by
 obtain ⟨i, hi, hz'⟩ := Ula hz
 exact Uwb hb (w' := w.alloc (.cells l.toArray elem)) (fun d pos after g a ha _ => by simp [execOp, Instr.alloc, zeroValue, typeInfo, hi, hz', newVar, newRow, hl]) (fun _ => (Yra w elem l).g) (h _ _ (Yra w elem l))

def Via (n : Nat) (σ : List Ent) (c : Prop) (ps : Array (Nat × Operand)) (vs : List (Nat × Value)) : Prop := ∀ a, Kn n σ a → c → (ps.map fun p => (p.1, a.eval p.2)).toList = vs
theorem Qk {n : Nat} {σ : List Ent} {c : Prop} : Via n σ c #[] [] := fun _ _ _ => by simp
theorem Wk {n : Nat} {σ : List Ent} {c : Prop} {i : Nat} {x : Operand} {u : Value} {ps : List (Nat × Operand)} {vs : List (Nat × Value)} (h : Ev n σ c x u) (k : Via n σ c ps.toArray vs) : Via n σ c ((i, x) :: ps).toArray ((i, u) :: vs) := fun a ha hc => by
 have := k a ha hc
 simp only [List.map_toArray, List.toList_toArray] at this ⊢
 rw [List.map_cons, this, h a ha hc]

def Je (P : Program) (t : TypeId) : Option (List (Nat × Nat)) := match P.underlying t with
 | some (.struct fs) => fs.toList.mapM fun f => (P.info? f.type).map fun i => (f.offset, i.size)
 | _ => none
theorem Wnc (w : World) : ∀ (fs : List Field) (ps : List (Nat × Nat)), (fs.mapM fun f => (P.info? f.type).map fun i => (f.offset, i.size)) = some ps →
  (fs.mapM (fun f => (do pure (f.offset, ← sizeOf f.type) : Sem (Nat × Nat)))).run P w = .ok ps w
 | [], ps, h => by simp at h; subst h; rfl
 | f :: fs, ps, h => by
  rw [List.mapM_cons] at h
  cases hi : P.info? f.type with
  | none => rw [hi] at h; simp at h
  | some i =>
   rw [hi] at h
   cases hr : (fs.mapM fun f => (P.info? f.type).map fun i => (f.offset, i.size)) with
   | none => rw [hr] at h; simp at h
   | some qs =>
    rw [hr] at h
    simp at h
    subst h
    have := Wnc w fs qs hr
    rw [List.mapM_cons]
    simp [sizeOf, typeInfo, hi] at this ⊢
    rw [this]
    simp
def Ycc (pl : Nat → Option (Nat × Nat)) : List Value → List (Nat × Value) → Option (List Value)
 | cs, [] => some cs
 | cs, (i, v) :: rest => match pl i with
  | none => none
  | some (off, z) => if Nat.beq v.cells.toList.length z && Nat.ble (off + z) cs.length then Ycc pl (cs.take off ++ v.cells.toList ++ cs.drop (off + z)) rest else none
theorem Woc : ∀ (vs : List Value) (off i : Nat) (cs : List Value), off + i + vs.length ≤ cs.length →
  (vs.zipIdx i).foldl (fun (cs : Array Value) (p : Value × Nat) => cs.setIfInBounds (off + p.2) p.1) cs.toArray = (cs.take (off + i) ++ vs ++ cs.drop (off + i + vs.length)).toArray
 | [], off, i, cs, _ => by simp
 | v :: vs, off, i, cs, h => by
  simp only [List.length_cons] at h
  rw [List.zipIdx_cons, List.foldl_cons]
  have e : (cs.toArray.setIfInBounds (off + i) v) = (cs.set (off + i) v).toArray := by simp
  simp only [e]
  rw [Woc vs off (i + 1) _ (by simp; omega)]
  have hlt : off + i < cs.length := by omega
  have e1 : (cs.set (off + i) v).take (off + (i + 1)) = cs.take (off + i) ++ [v] := by
   rw [show off + (i + 1) = (off + i) + 1 by omega, List.take_add_one, List.take_set_of_le (Nat.le_refl _)]
   simp [hlt]
  have e2 : (cs.set (off + i) v).drop (off + (i + 1) + vs.length) = cs.drop (off + i + (v :: vs).length) := by
   rw [List.drop_set_of_lt (by omega)]; congr 1; simp; omega
  rw [e1, e2]
  simp [List.append_assoc]
theorem Veb (pl : Nat → Option (Nat × Nat)) : ∀ (vs : List (Nat × Value)) (cs l : List Value), Ycc pl cs vs = some l → Instr.fill pl cs.toArray vs = some l.toArray
 | [], cs, l, h => by injection h with h; subst h; rfl
 | (i, v) :: rest, cs, l, h => by
  unfold Ycc at h
  unfold Instr.fill
  split at h
  ·cases h
  ·rename_i off z hp
   split at h
   ·rename_i hc
    simp only [Bool.and_eq_true] at hc
    have h1 := Nat.eq_of_beq_eq_true hc.1
    have h2 := Nat.le_of_ble_eq_true hc.2
    simp only [hp]
    have h3 : v.cells.size = z := by simpa using h1
    rw [if_neg (by simp [h3]; omega)]
    have e : v.cells.zipIdx.foldl (fun cs x => cs.setIfInBounds (off + x.2) x.1) cs.toArray = (cs.take off ++ v.cells.toList ++ cs.drop (off + z)).toArray := by
     have := Woc v.cells.toList off 0 cs (by rw [h1]; omega)
     rw [h1] at this
     simp only [Nat.add_zero] at this
     rw [← this, ← Array.foldl_toList, Array.toList_zipIdx]
    have e' := Veb pl rest _ l h
    rw [← e] at e'
    exact e'
   ·cases h
theorem Js {c : Prop} {wb : World} {t : TypeId} {ps : Array (Nat × Operand)} {vs : List (Nat × Value)} {pl : List (Nat × Nat)} {z : Value} {zl : List Value} (l : List Value) (hz : zeroOf P t = some z) (hzl : z.cells = zl.toArray) (hp : Je P t = some pl) (hx : Via n σ c ps vs)
  (hf : Ycc (fun (i : Nat) => pl[i]?) zl vs = some l) : Rd P n σ c wb (.build t ps) ty (.agg l.toArray) := fun d pos after g a ha hc w1 _ => by
 have hf := Veb _ _ _ _ hf
 rw [← hzl] at hf
 obtain ⟨i, hi, hz'⟩ := Ula hz
 unfold Je at hp
 split at hp
 ·rename_i fs hfs
  have hpl := Wnc (P := P) w1 fs.toList pl hp
  have hpl' : (fs.mapM (fun f => (do pure (f.offset, ← sizeOf f.type) : Sem (Nat × Nat)))).run P w1 = .ok pl.toArray w1 := by
   rw [Array.mapM_eq_mapM_toList]
   simp only [Sem.run_map, hpl, Result.andThen_ok]
  have hx' := hx a ha hc
  simp only [execOp, Instr.build, Sem.run_bind, zeroValue, typeInfo, run_program, Result.andThen_ok, hi, hz', Sem.run_pure, run_underlying hfs]
  rw [hpl']
  simp only [Result.andThen_ok]
  have hfun : (fun (x : Nat) => pl.toArray[x]?) = (fun (i : Nat) => pl[i]?) := by funext i; simp
  rw [hfun, hx', hf]
  rfl
 ·cases hp
def Jsc (z : Nat) : Nat → List (Nat × Value) → Option (List Value)
 | _, [] => some []
 | k, (i, v) :: rest => if Nat.beq i k && Nat.beq v.cells.toList.length z then (Jsc z (k + 1) rest).map (v.cells.toList ++ ·) else none
theorem Uxb (z : Nat) : ∀ (vs : List (Nat × Value)) (k : Nat) (done cs l : List Value), Jsc z k vs = some l → done.length = k * z → cs.length = (k + vs.length) * z → cs.take (k * z) = done →
  Ycc (fun i => some (i * z, z)) cs vs = some (done ++ l)
 | [], k, done, cs, l, h, h1, h2, h3 => by
  injection h with h
  subst h
  unfold Ycc
  rw [← h3, List.append_nil, List.take_of_length_le (by rw [h2]; simp)]
 | (i, v) :: rest, k, done, cs, l, h, h1, h2, h3 => by
  unfold Jsc at h
  split at h
  ·rename_i hc
   simp only [Bool.and_eq_true] at hc
   have e1 := Nat.eq_of_beq_eq_true hc.1
   have e2 := Nat.eq_of_beq_eq_true hc.2
   subst e1
   cases hr : Jsc z (i + 1) rest with
   | none => rw [hr] at h; cases h
   | some l' =>
    rw [hr] at h
    injection h with h
    subst h
    unfold Ycc
    simp only [List.length_cons] at h2
    have hm : (i + 1) * z = i * z + z := by rw [Nat.add_mul, Nat.one_mul]
    have hm2 : (i + (rest.length + 1)) * z = i * z + z + rest.length * z := by rw [Nat.add_mul, Nat.add_mul, Nat.one_mul]; omega
    have hle : i * z + z ≤ cs.length := by rw [h2, hm2]; omega
    dsimp only
    rw [if_pos (by rw [Bool.and_eq_true]; exact ⟨hc.2, Nat.ble_eq_true_of_le hle⟩)]
    have := Uxb z rest (i + 1) (done ++ v.cells.toList) (cs.take (i * z) ++ v.cells.toList ++ cs.drop (i * z + z)) l' hr (by rw [List.length_append, h1, e2, hm]) (by
     rw [List.length_append, List.length_append, e2, List.length_take, List.length_drop, h2, hm2, Nat.add_mul, hm]; omega) (by
     rw [hm, List.take_append_of_le_length (by rw [List.length_append, e2, List.length_take]; omega), List.take_of_length_le (by rw [List.length_append, e2, List.length_take]; omega), h3])
    rw [this, List.append_assoc]
  ·cases h
theorem Yb {t e z by_ m : Nat} {ps : Array (Nat × Operand)} {vs : List (Nat × Value)} {zv : Value} (l : List Value) (hb : (!Nat.beq (clOf cl k) 0 && !Nat.beq (clOf cl k) 3 && Nat.blt d n) = true) (ht : tyElem P t = some (e, z, by_)) (hz : zeroOf P e = some zv)
  (hx : Via n σ True ps vs) (hm : (Nat.ble (m * z) 16777216 && !Nat.beq (m * z) 0 && Nat.beq vs.length m) = true) (hf : Jsc z 0 vs = some l)
  (h : ∀ b w1, New w w1 b e l → SR P Z ops cl lv W0 n K (k + 1) rest ((d, True, .slice (some ⟨b, 0, none⟩) m m) :: σ) w1) :
  SR P Z ops cl lv W0 n K k (⟨some d, .buildSlice t m ps, ty, pos, after, none⟩ :: rest) σ w := by
 obtain ⟨hu, i, hi, hsz, _⟩ := Jc ht
 obtain ⟨i', hi', hz'⟩ := Ula hz
 obtain rfl : i = i' := Option.some.inj (hi.symm.trans hi')
 simp only [Bool.and_eq_true, Bool.not_eq_true'] at hm
 have hm1 : ¬ (m * z > 2 ^ 24) := by have := Nat.le_of_ble_eq_true hm.1.1; omega
 have hm2 : ¬ (m * z = 0) := by intro he; rw [he] at hm; simp at hm
 have hvl := Nat.eq_of_beq_eq_true hm.2
 have hfill : Instr.fill (fun i => some (i * z, z)) ((Array.range (m * z)).map (zv.cells[· % zv.cells.size]!)) vs = some l.toArray := by
  have h1 := Uxb z vs 0 [] ((Array.range (m * z)).map (zv.cells[· % zv.cells.size]!)).toList l hf (by simp) (by simp [hvl]) (by simp)
  have := Veb _ _ _ _ h1
  rwa [Array.toArray_toList] at this
 refine Uwb hb (w' := w.alloc (.cells l.toArray e)) (fun d pos after g a ha _ => ?_) (fun _ => (Yra w e l).g) (h _ _ (Yra w e l))
 have hx' := hx a ha trivial
 simp only [execOp, Instr.buildSlice, Sem.run_bind, run_underlying hu, Result.andThen_ok, sizeOf, typeInfo, run_program, hi, Sem.run_pure, hsz, if_neg hm1, if_neg hm2, zeroValue, hz']
 rw [hx', hfill]
 simp [newRow]

/-! calls -/
def goFn (P : Program) (f : FuncId) : Bool := match P.funcs[f]? with | some fn => !(fn.name == "runtime.NumGoroutine") && fn.body.isSome | none => false
def Zvb (n : Nat) (σ : List Ent) (c : Prop) (xs : List Operand) (vs : List Value) : Prop := ∀ a, Kn n σ a → c → xs.map a.eval = vs
theorem Xw {n : Nat} {σ : List Ent} {c : Prop} : Zvb n σ c [] [] := fun _ _ _ => rfl
theorem Xf {n : Nat} {σ : List Ent} {c : Prop} {x : Operand} {u : Value} {xs : List Operand} {vs : List Value} (h : Ev n σ c x u) (k : Zvb n σ c xs vs) : Zvb n σ c (x :: xs) (u :: vs) := fun a ha hc => by
 rw [List.map_cons, h a ha hc, k a ha hc]
theorem Qie {f : FuncId} (hf : goFn P f = true) (args : Array Value) (w : World) : (callFunc f args).run P w = .ok (.enter f args) w := by
 unfold goFn at hf
 split at hf
 ·rename_i fn hfn
  simp only [Bool.and_eq_true, Bool.not_eq_true'] at hf
  obtain ⟨h1, h2⟩ := hf
  have h3 : ¬ fn.body = none := by intro hb; rw [hb] at h2; cases h2
  have h4 : ¬ fn.name = "runtime.NumGoroutine" := by simpa using h1
  simp [callFunc, hfn, h4, h3]
 ·cases hf
theorem Zo {c : Prop} {x : Operand} {f : FuncId} {fs cs : Array Value} {xs : List Operand} {vs : List Value} {ats : Array TypeId} {args : Array Value} (hf : goFn P f = true) (h : Ev n σ c x (.func (.func f) fs cs)) (hx : Zvb n σ c xs vs)
  (ha : fs ++ vs.toArray ++ cs = args) : RunC P n σ c w (.call { callee := .value x, args := xs.toArray, argTypes := ats }) ty f args := fun d pos after g a hk hc => by
 have h1 := hx a hk hc
 have h2 : xs.toArray.map a.eval = vs.toArray := by rw [List.map_toArray, h1]
 simp only [execOp, resolve, h a hk hc, h2, Deferred.ofValue, Sem.run_bind, Sem.run_pure, Result.andThen_ok, invoke, ha]
 exact Qie hf args w

def onesB (l : List Value) : Bool := l.all (·.oneCell')
theorem Yve {l : List Value} (h : onesB l = true) : ∀ u ∈ l, u.oneCell' = true := fun u hu => List.all_eq_true.1 h u hu
/-! stores -/
theorem Vad {b o : Nat} {e : TypeId} {l : List Value} {v : Value} (hB : Blk w b e l) (ho : o < l.length) (hv : v.oneCell' = true) :
  (store ⟨b, o, none⟩ v).run P w = .ok () (w.setCell ⟨b, o, none⟩ v) ∧ Blk (w.setCell ⟨b, o, none⟩ v) b e (l.set o v) ∧ w.grownBy (w.setCell ⟨b, o, none⟩ v) (some b) := by
 have hc : w.cell? ⟨b, o, none⟩ = some l[o] := hB.at_ (List.getElem?_eq_getElem ho)
 have hfz : w.frozen? ⟨b, o, none⟩ = false := by unfold Blk at hB; simp [World.frozen?, hB]
 refine ⟨?_, ?_, ⟨rfl, rfl, rfl, by simp, fun k hk hne => Below.heap_setCell _ _ _ _ (fun he => hne (by rw [he]))⟩⟩
 ·rw [run_store P w _ v _ hv, hc]; simp [hfz]
 ·unfold Blk at hB ⊢
  simp [World.setCell, Array.getElem?_modify, hB]
theorem Uhb {a b c : World} {row : Option Nat} (h : a.grownBy b row) (k : b.grownBy c row) : a.grownBy c row :=
 ⟨k.os.trans h.os, k.tape.trans h.tape, k.output.trans h.output, Nat.le_trans h.size k.size, fun i hi hn => (k.block i (Nat.lt_of_lt_of_le hi h.size) hn).trans (h.block i hi hn)⟩
theorem Qlb {b e : Nat} : ∀ (vs : List Value) (o i : Nat) (l : List Value) (w : World), Blk w b e l → o + i + vs.length ≤ l.length → (∀ u ∈ vs, u.oneCell' = true) →
  ∃ w', (storeCells ⟨b, o, none⟩ vs i).run P w = .ok () w' ∧ Blk w' b e (l.take (o + i) ++ vs ++ l.drop (o + i + vs.length)) ∧ w.grownBy w' (some b) ∧ w'.heap.size = w.heap.size
 | [], o, i, l, w, hB, _, _ => ⟨w, rfl, by simpa using hB, ⟨rfl, rfl, rfl, Nat.le_refl _, fun _ _ _ => rfl⟩, rfl⟩
 | v :: vs, o, i, l, w, hB, hl, h1 => by
  simp only [List.length_cons] at hl
  obtain ⟨q1, q2, q3⟩ := Vad (P := P) hB (o := o + i) (by omega) (h1 v List.mem_cons_self)
  obtain ⟨w', r1, r2, r3, r4⟩ := Qlb vs o (i + 1) (l.set (o + i) v) _ q2 (by simp; omega) (fun u hu => h1 u (List.mem_cons_of_mem _ hu))
  refine ⟨w', ?_, ?_, Uhb q3 r3, by rw [r4]; simp⟩
  ·simp only [storeCells, Sem.run_bind, Addr.add_lit, q1, Result.andThen_ok]
   exact r1
  ·have hlt : o + i < l.length := by omega
   have e1 : (l.set (o + i) v).take (o + (i + 1)) = l.take (o + i) ++ [v] := by
    rw [show o + (i + 1) = (o + i) + 1 by omega, List.take_add_one, List.take_set_of_le (Nat.le_refl _)]
    simp [hlt]
   have e2 : (l.set (o + i) v).drop (o + (i + 1) + vs.length) = l.drop (o + i + (v :: vs).length) := by
    rw [List.drop_set_of_lt (by omega)]; congr 1; simp; omega
   rw [e1, e2] at r2
   simpa [List.append_assoc] using r2

theorem Ww {t : TypeId} {x y : Operand} {b o z : Nat} {e : TypeId} {u : Value} {l vs : List Value} (hb : Nat.beq (clOf cl k) 2 = true) (hs : tySize P t = some z) (hx : Ev n σ True x (.pointer (some ⟨b, o, none⟩))) (hy : Ev n σ True y u)
  (hu : u.cells = vs.toArray) (hz : vs.length = z) (hB : Blk w b e l) (hfit : Nat.ble (o + vs.length) l.length = true) (h1 : onesB vs = true)
  (h : ∀ w1, w.grownBy w1 (some b) → w1.heap.size = w.heap.size → Blk w1 b e (l.take o ++ vs ++ l.drop (o + vs.length)) → SR P Z ops cl lv W0 n K (k + 1) rest σ w1) :
  SR P Z ops cl lv W0 n K k (⟨none, .store t x y, ty, pos, after, none⟩ :: rest) σ w := by
 obtain ⟨w1, r1, r2, r3, r4⟩ := Qlb (P := P) vs o 0 l w hB (by have := Nat.le_of_ble_eq_true hfit; omega) (Yve h1)
 refine Xqf hb (w' := w1) (fun d pos after g a ha _ => ?_) (h w1 r3 r4 (by simpa using r2))
 unfold tySize at hs
 obtain ⟨i, hi, hi2⟩ := Option.map_eq_some_iff.1 hs
 have hsz : (sizeOf t).run P w = .ok vs.length w := by simp [sizeOf, typeInfo, hi, hi2, hz]
 simp [execOp, hx a ha trivial, hy a ha trivial, Instr.storeAt, Instr.sureAddr, storeVar, hsz, hu, r1]

theorem Yfa {t : TypeId} {x y : Operand} {b z : Nat} {e : TypeId} {u : Value} {l vs : List Value} (hb : Nat.beq (clOf cl k) 2 = true) (hs : tySize P t = some z) (hx : Ev n σ True x (.pointer (some ⟨b, 0, none⟩))) (hy : Ev n σ True y u)
  (hu : u.cells = vs.toArray) (hz : vs.length = z) (hB : Blk w b e l) (hfit : Nat.beq vs.length l.length = true) (h1 : onesB vs = true)
  (h : ∀ w1, w.grownBy w1 (some b) → w1.heap.size = w.heap.size → Blk w1 b e vs → SR P Z ops cl lv W0 n K (k + 1) rest σ w1) :
  SR P Z ops cl lv W0 n K k (⟨none, .store t x y, ty, pos, after, none⟩ :: rest) σ w := by
 have hf := Nat.eq_of_beq_eq_true hfit
 refine Ww hb hs hx hy hu hz hB (by rw [Nat.zero_add, hf]; exact Nat.ble_self_eq_true _) h1 fun w1 h2 h3 h4 => h w1 h2 h3 ?_
 rw [Nat.zero_add, hf, List.drop_length, List.take_zero, List.nil_append, List.append_nil] at h4
 exact h4
theorem Zwb {t : TypeId} {x y : Operand} {b o : Nat} {e : TypeId} {u v : Value} {l : List Value} (hb : Nat.beq (clOf cl k) 2 = true) (hs : tySize P t = some 1) (hx : Ev n σ True x (.pointer (some ⟨b, o, none⟩))) (hy : Ev n σ True y u)
  (hu : u.cells = #[v]) (hB : Blk w b e l) (hfit : Nat.blt o l.length = true) (h1 : v.oneCell' = true)
  (h : ∀ w1, w.grownBy w1 (some b) → w1.heap.size = w.heap.size → Blk w1 b e (l.set o v) → SR P Z ops cl lv W0 n K (k + 1) rest σ w1) :
  SR P Z ops cl lv W0 n K k (⟨none, .store t x y, ty, pos, after, none⟩ :: rest) σ w := by
 have hf : o < l.length := Nat.le_of_ble_eq_true hfit
 refine Ww (vs := [v]) hb hs hx hy hu rfl hB (Nat.ble_eq ▸ hf) (by simp [onesB, h1]) fun w1 h2 h3 h4 => h w1 h2 h3 ?_
 have e1 : l.set o v = l.take o ++ [v] ++ l.drop (o + [v].length) := by
  rw [List.set_eq_take_append_cons_drop, if_pos hf]; simp
 rw [e1]; exact h4

theorem Ysa {t e z by_ base m q q' : Nat} {x y : Operand} {s zv : Value} {xs news : List Value} {b' o' : Nat} (hb : (Nat.beq (clOf cl k) 2 && Nat.blt d n) = true) (ht : tyElem P t = some (e, z, by_)) (hzv : zeroOf P e = some zv)
  (hzs : zv.cells.size = z) (hz0 : 0 < z) (hx : Ev n σ True x s) (hown : w.ownsRow base e z s m xs) (hy : Ev n σ True y (.slice (some ⟨b', o', none⟩) q q')) (hl : news.length = q * z) (hn : RowAt w b' o' news) (h1 : onesB news = true)
  (h63 : m + q ≤ maxLen) (hby : (m + q) * by_ ≤ 140737488355328) (hbase : base ≤ w.heap.size)
  (h : ∀ a' c' w', w'.ownsRow base e z (.slice a' (m + q) c') (m + q) (xs ++ news) → w.grownBy w' s.ownBlock → ((Value.slice a' (m + q) c').ownBlock = s.ownBlock ∨ (Value.slice a' (m + q) c').ownBlock = some w.heap.size) → SR P Z ops cl lv W0 n K (k + 1) rest ((d, True, .slice a' (m + q) c') :: σ) w') :
  SR P Z ops cl lv W0 n K k (⟨some d, .call { callee := .builtin .append, args := #[x, y], argTypes := #[t, t] }, ty, pos, after, none⟩ :: rest) σ w := by
 obtain ⟨hu, i, hi, hsz, hbyi⟩ := Jc ht
 obtain ⟨i', hi', hz'⟩ := Ula hzv
 obtain rfl : i = i' := Option.some.inj (hi.symm.trans hi')
 simp only [Bool.and_eq_true] at hb
 have hc := Nat.eq_of_beq_eq_true hb.1
 obtain ⟨s', w', r1, r2, r3, _, r5⟩ := run_append_own_at (P := P) w base t ty e i zv z by_ hu hi hz' hsz hbyi hzs hz0 s m xs hown ⟨b', o', none⟩ q q' news hl (fun j u hj => by rw [Addr.add_lit]; exact hn j u hj) (Yve h1) h63 hby hbase
 obtain ⟨a', c', hs'⟩ : ∃ a' c', s' = .slice a' (m + q) c' := by
  rcases r2.2 with ⟨q1, q2⟩ | ⟨g, cap, cur, q1, _⟩
  ·exact ⟨none, 0, by rw [q1, q2]⟩
  ·exact ⟨_, cap, q1⟩
 subst hs'
 refine Uwb (w' := w') (by rw [hc, hb.2]; rfl) (fun d pos after g a ha _ => ?_) (fun hh => by omega) (h a' c' w' r2 r3 r5)
 simp only [execOp, resolve, invoke, builtin, Sem.run_bind, Sem.run_pure, Result.andThen_ok, List.map_toArray, List.map_cons, List.map_nil, hx a ha trivial, hy a ha trivial, r1]
end

/-! ## Code -/
def Qof (N : Act → World → Prop) (X : List (Nat × (Act → World → Prop))) (T : Act → World → Prop) : Exit → Act → World → Prop
 | .normal, a, w => N a w
 | .ret, a, w => T a w
 | .exit id, a, w => match X.lookup id with | some k => k a w | none => False
 | _, _, _ => False

def SC (P : Program) (n : Nat) (c : Code) (N : Act → World → Prop) (X : List (Nat × (Act → World → Prop))) (T : Act → World → Prop) (σ : List Ent) (w : World) : Prop := ∀ a, Kn n σ a → c.wp P (Qof N X T) a w

section
variable {P : Program} {n : Nat} {N T : Act → World → Prop} {X : List (Nat × (Act → World → Prop))} {σ : List Ent} {w : World}

theorem Jmd {c : Code} (τ : List Ent) (hs : Sub τ σ) (h : SC P n c N X T τ w) : SC P n c N X T σ w := fun a ha => h a (ha.sub hs)
theorem Wya {x y : Code} (h : ∀ K : Act → World → Prop, (∀ τ u, SC P n y N X T τ u → ∀ a, Kn n τ a → K a u) → SC P n x K X T σ w) : SC P n (.seq x y) N X T σ w := fun a ha => by
 refine wp_seq (Code.wp_mono (fun e a w q => ?_) (h (fun a w => y.wp P (Qof N X T) a w) (fun τ u hy a ha => hy a ha) a ha))
 cases e <;> exact q
theorem Yc (h : ∀ a, Kn n σ a → N a w) : SC P n .skip N X T σ w := fun a ha => wp_skip (h a ha)
theorem Zr (h : ∀ a, Kn n σ a → T a w) : SC P n .ret N X T σ w := fun a ha => wp_ret (h a ha)
theorem Vq {id : Nat} {k : Act → World → Prop} (hk : X.lookup id = some k) (h : ∀ a, Kn n σ a → k a w) : SC P n (.exit id) N X T σ w := fun a ha => wp_exit (by
 show match X.lookup id with | some k => k a w | none => False
 rw [hk]; exact h a ha)
theorem Yu {id : Nat} {c : Code} (h : SC P n c N ((id, N) :: X) T σ w) : SC P n (.block id c) N X T σ w := fun a ha => by
 refine wp_block (Code.wp_mono (fun e a w q => ?_) (h a ha))
 cases e with
 | exit id' =>
  simp only [Exit.inBlock]
  by_cases he : id' = id
  ·subst he
   rw [if_pos rfl]
   simpa [Qof, List.lookup] using q
  ·rw [if_neg he]
   simp only [Qof] at q ⊢
   rw [List.lookup_cons] at q
   have : (id' == id) = false := by simpa using he
   rw [this] at q
   exact q
 | _ => exact q
theorem Xzc {x : Operand} {b : Bool} {p q : Code} (hx : Ev n σ True x (.bool b)) (h1 : b = true → SC P n p N X T σ w) (h2 : b = false → SC P n q N X T σ w) : SC P n (.cond x p q) N X T σ w := fun a ha =>
 wp_cond_split (hx a ha trivial) (fun h => h1 h a ha) (fun h => h2 h a ha)
theorem Xi {t : Nat} {g : Bool} {y : Code} {b0 : Bool} (τ : List Ent) (hs : Sub ((t, True, .bool g) :: τ) σ) (hx : look σ t = some (True, .bool g))
  (hy : g = false → SC P n y (fun a w' => Kn n ((t, True, .bool b0) :: τ) a ∧ w' = w) X T σ w) (hN : ∀ a, Kn n ((t, True, .bool (g || b0)) :: τ) a → N a w) :
  SC P n (.cond (.tmp t) .skip y) N X T σ w := by
 refine Xzc (Zk hx) (fun hg => ?_) (fun hg => ?_)
 ·subst hg
  exact Yc fun a ha => hN a (by simpa using ha.sub hs)
 ·intro a ha
  refine Code.wp_mono (fun e a' w' q => ?_) (hy hg a ha)
  cases e with
  | normal => obtain ⟨q1, rfl⟩ := q; subst hg; exact hN a' (by simpa using q1)
  | _ => exact q
theorem Wma {id : Nat} {l : List Oper} (cl : List Nat) (h : SR P NoP l cl [] w n N 0 l σ w) : SC P n (.region id l.toArray false) N X T σ w := fun a ha => by
 have h1 := h (fun j o ho => by simpa using ho) a ha
 have e : lvOf [] = fun _ => true := by funext i; simp [lvOf]
 rw [e] at h1
 have h2 : RS P NoP l.toArray (clOf cl) (fun _ => true) w (fun a w => (Qof N X T) .normal a w) (List.range l.toArray.size) a w := by
  rw [List.range_eq_range']; simpa [Qof] using h1
 exact Xlf h2
theorem Wr {id : Nat} {l : List Oper} (cl : List Nat) (lv : List Bool) (ms : List Nat) (hm : P.follows .mixedOrders = true) (hok : okB l cl lv ms = true)
  (h : SR P NoP l cl lv w.drew n N 0 l σ w.drew) : SC P n (.region id l.toArray true) N X T σ w := fun a ha => by
 have h1 := h (fun j o ho => by simpa using ho) a ha
 have h2 : RS P NoP l.toArray (clOf cl) (lvOf lv) w.drew (fun a w => (Qof N X T) .normal a w) (List.range l.toArray.size) a w.drew := by
  rw [List.range_eq_range']; simpa [Qof] using h1
 exact Xkf (Xmf hok) hm h2

theorem Qmb {c : Code} {α : Type} (I : α → World → Prop) (σf : α → List Ent) (μ : α → Nat) (x0 : α) (h0 : I x0 w) (hs : Sub (σf x0) σ)
  (round : ∀ x w, I x w → SC P n c (fun a' w' => ∃ y, Kn n (σf y) a' ∧ I y w' ∧ μ y < μ x) X T (σf x) w) : SC P n (.loop c) N X T σ w := fun a ha => by
 intro b k cs
 have key : ∀ m x a w, μ x = m → Kn n (σf x) a → I x w →
   ∃ e a' w', Qof N X T e a' w' ∧ Arrives P (lone (b.at a (.code c :: .inLoop c :: k)) cs w) b k cs e a' w' := by
  intro m
  induction m using Nat.strongRecOn with
  | _ m ih =>
   intro x a w hm hk hI
   obtain ⟨e, a₁, w₁, hq, harr⟩ := round x w hI a hk b (.inLoop c :: k) cs
   cases e with
   | normal =>
    obtain ⟨y, hk1, hI1, hlt⟩ := hq
    obtain ⟨e₂, a₂, w₂, hq₂, harr₂⟩ := ih (μ y) (hm ▸ hlt) y a₁ w₁ rfl hk1 hI1
    exact ⟨e₂, a₂, w₂, hq₂, .of_steps (Steps.trans harr (.one step_inLoop)) harr₂⟩
   | exit id => exact ⟨.exit id, a₁, w₁, hq, .pass (x := .inLoop c) rfl (fun _ _ => .inl (by simp)) harr⟩
   | goto l => exact hq.elim
   | ret => exact ⟨.ret, a₁, w₁, hq, .pass (x := .inLoop c) rfl (fun _ _ => .inl (by simp)) harr⟩
   | panic ch => exact hq.elim
   | outgrown => exact hq.elim
 obtain ⟨e, a', w', hq, harr⟩ := key _ x0 a w rfl (ha.sub hs) h0
 exact ⟨e, a', w', hq, .of_steps (.one step_loop) harr⟩

theorem Qq {c : Code} {α : Type} (I : α → World → Prop) (σc : List Ent) (σf : α → List Ent) (μ : α → Nat) (x0 : α) (h0 : I x0 w) (hs : Sub (σf x0 ++ σc) σ)
  (round : ∀ x w, I x w → SC P n c (fun a' w' => ∃ y, Kn n (σf y ++ σc) a' ∧ I y w' ∧ μ y < μ x) X T (σf x ++ σc) w) : SC P n (.loop c) N X T σ w :=
 Qmb I (fun x => σf x ++ σc) μ x0 h0 hs round

/-! ends of a function -/
theorem Xra {fn : Func} {R : Value → World → Prop} (hr : fn.results = #[]) (h : R (.tuple #[]) w) : ∀ a, Kn n σ a → bodyPost P fn (fun e w' => ∃ v, e = .returned v ∧ R v w') .normal a w := fun a ha =>
 bodyPost_end (results_none hr _ _ _) ha.2.1 ⟨_, rfl, h⟩
theorem Yx {fn : Func} {R : Value → World → Prop} {t : Nat} {v : Value} (hr : fn.results = #[.tmp t]) (hl : look σ t = some (True, v)) (h : R v w) : ∀ a, Kn n σ a → bodyPost P fn (fun e w' => ∃ v, e = .returned v ∧ R v w') .ret a w := fun a ha =>
 bodyPost_ret (results_tmp hr _ _ _) ha.2.1 ⟨_, rfl, by have := ha.at_ hl trivial; simp [this]; exact h⟩
def resOf (us : List Value) : Value := if h : us.toArray.size = 1 then us.toArray[0] else .tuple us.toArray
theorem Uva {fn : Func} {R : Value → World → Prop} {ts : List Nat} {vs : List Value} (hr : fn.results = (ts.map ResultVar.tmp).toArray) (h2 : Nat.beq ts.length 1 = false) (hl : ts.map (look σ) = vs.map (fun v => some (True, v))) (h : R (.tuple vs.toArray) w) :
  ∀ a, Kn n σ a → bodyPost P fn (fun e w' => ∃ v, e = .returned v ∧ R v w') .ret a w := fun a ha => by
 refine bodyPost_ret (v := .tuple vs.toArray) ?_ ha.2.1 ⟨_, rfl, h⟩
 have hvs : ∀ (ts : List Nat) (vs : List Value), ts.map (look σ) = vs.map (fun v => some (True, v)) → ts.map (fun t => a.tmps.getD t undef) = vs := by
  intro ts
  induction ts with
  | nil => intro vs h; cases vs with
   | nil => rfl
   | cons => simp at h
  | cons t ts ih =>
   intro vs h
   cases vs with
   | nil => simp at h
   | cons v vs =>
    simp only [List.map_cons, List.cons.injEq] at h
    have := ha.at_ h.1 trivial
    rw [List.map_cons, ih vs h.2]
    simp [this]
 have hrun : ∀ (ts : List Nat), (ts.mapM (fun t => (pure (a.tmps.getD t undef) : Sem Value))).run P w = .ok (ts.map fun t => a.tmps.getD t undef) w := by
  intro ts
  induction ts with
  | nil => rfl
  | cons t ts ih =>
   rw [List.mapM_cons]
   simp only [Sem.run_bind, Sem.run_pure, Result.andThen_ok] at ih ⊢
   rw [ih]; rfl
 have hres : (results fn a.tmps).run P w = .ok (resOf (ts.map fun t => a.tmps.getD t undef)) w := by
  unfold results
  rw [hr, Array.mapM_eq_mapM_toList]
  simp only [Sem.run_bind, Sem.run_map, List.mapM_map]
  have := hrun ts
  simp only [Function.comp_def]
  rw [this]
  rfl
 rw [hres, hvs ts vs hl]
 have hlen : vs.length = ts.length := by have := congrArg List.length hl; simpa using this.symm
 unfold resOf
 rw [dif_neg (by simp only [List.size_toArray, hlen]; intro he; rw [he] at h2; simp at h2)]

def argsK : Nat → List Value → List Ent
 | _, [] => []
 | k, v :: vs => (k, True, v) :: argsK (k + 1) vs
theorem Wpc : ∀ (vs : List Value) (k t : Nat) (c : Prop) (v : Value), look (argsK k vs) t = some (c, v) → c = True ∧ k ≤ t ∧ vs[t - k]? = some v
 | [], _, _, _, _, h => by simp [argsK, look] at h
 | u :: vs, k, t, c, v, h => by
  unfold argsK look at h
  cases hq : Nat.beq k t with
  | true =>
   rw [hq] at h
   obtain rfl := Nat.eq_of_beq_eq_true hq
   simp only [cond_true] at h
   injection h with h
   injection h with e1 e2
   subst e2
   exact ⟨e1.symm, Nat.le_refl _, by simp⟩
  | false =>
   rw [hq] at h
   obtain ⟨h1, h2, h3⟩ := Wpc vs (k + 1) t c v h
   refine ⟨h1, by omega, ?_⟩
   rw [show t - k = (t - (k + 1)) + 1 by omega]
   simpa using h3
theorem Yp {f : FuncId} {fn : Func} {c : Code} {args : List Value} {R : Value → World → Prop} {m : Nat} (hf : P.funcs[f]? = some fn) (hb : fn.body = some c) (hm : args.length + (fn.ntmps - args.length) = m)
  (σ0 : List Ent) (hs : Sub σ0 (argsK 0 args))
  (hh : SC P m c (fun a w => bodyPost P fn (fun e w' => ∃ v, e = .returned v ∧ R v w') .normal a w) [] (fun a w => bodyPost P fn (fun e w' => ∃ v, e = .returned v ∧ R v w') .ret a w)
   σ0 w) : Ret P f args.toArray w R := by
 unfold Ret
 refine calls_of_wp hf hb (Code.wp_mono (fun e a w q => ?_) (hh _ (Kn.sub (σ := argsK 0 args) ?_ hs)))
 ·cases e with
  | normal => exact q
  | ret => exact q
  | _ => exact q.elim
 ·refine ⟨by simp [← hm], rfl, fun t c' v hl => ?_⟩
  obtain ⟨rfl, _, h3⟩ := Wpc args 0 t c' v hl
  refine ⟨fun _ => ?_, fun hn => absurd trivial hn⟩
  rw [Nat.sub_zero] at h3
  have hlt : t < args.length := (List.getElem?_eq_some_iff.1 h3).1
  simp [Array.getElem?_append, hlt, h3]
  simpa [hlt] using h3
end
section
variable {w w' : World} {base : Nat} {e : TypeId} {z : Nat} {v : Value} {m : Nat} {xs : List Value}
theorem Zxb (h : w.ownsRow base e z v m xs) : ∃ a c, v = .slice a m c ∧ m ≤ c := by
 rcases h.2 with ⟨h1, h2⟩ | ⟨g, cap, cur, h1, _, _, h4, _⟩
 ·subst h2; exact ⟨none, 0, h1, Nat.le_refl _⟩
 ·exact ⟨_, cap, h1, h4⟩
theorem Qxf (h : w.ownsRow base e z v m xs) {b o c : Nat} {k : Nat} (hv : v = .slice (some ⟨b, o, none⟩) k c) : RowAt w b o xs ∧ o = 0 ∧ base ≤ b := by
 rcases h.2 with ⟨h1, h2⟩ | ⟨g, cap, cur, h1, h2, h3, h4, h5, h6, h7⟩
 ·rw [h1] at hv; injection hv with hv; cases hv
 ·rw [h1] at hv
  injection hv with hv _ _
  injection hv with hv
  injection hv with e1 e2 _
  subst e1
  subst e2
  refine ⟨fun j u hj => ?_, rfl, h2⟩
  have := h.cells (g := g) (by rw [h1]; rfl) j u hj
  rwa [Addr.add_lit] at this
theorem Qqa (h : w.ownsRow base e z v m xs) (hm : 0 < m) : ∃ b c, v = .slice (some ⟨b, 0, none⟩) m c ∧ m ≤ c ∧ RowAt w b 0 xs ∧ base ≤ b := by
 rcases h.2 with ⟨_, h2⟩ | ⟨g, cap, cur, h1, h2, h3, h4, h5, h6, h7⟩
 ·omega
 ·obtain ⟨q1, _, q3⟩ := Qxf h h1
  exact ⟨g, cap, h1, h4, q1, q3⟩
theorem Vy {row : Option Nat} (h : w.ownsRow base e z v m xs) (hg : w.grownBy w' row) (hne : v.ownBlock = none ∨ v.ownBlock ≠ row) : w'.ownsRow base e z v m xs := h.kept hg hne
theorem Us (h : w.ownsRow base e z v m xs) (hg : G w w') : w'.ownsRow base e z v m xs := h.kept (hg.only none) (by cases hv : v.ownBlock <;> simp)
theorem Vbd (h : w.ownsRow base e z v m xs) : w.drew.ownsRow base e z v m xs := h
theorem Wna (w : World) (base : Nat) (e : TypeId) (z : Nat) : w.ownsRow base e z (.slice none 0 0) 0 [] := World.ownsRow_nil w base e z
theorem Xca (h : G w w') (hb : base ≤ w.heap.size) : Below base w w' := Below.mono h hb
theorem Zsa {a : World} {row : Option Nat} (h : Below base a w) (hg : w.grownBy w' row) (hb : base ≤ w.heap.size) (hr : ∀ k, row = some k → base ≤ k) : Below base a w' := h.grown hg hb hr
theorem Wqc {a : World} {row : Option Nat} (h : G a w) (hg : w.grownBy w' row) (hr : ∀ k, row = some k → a.heap.size ≤ k) : G a w' := Below.grown h hg h.size hr
theorem Qyf (h : w.ownsRow base e z v m xs) {b : Nat} (hb : w.heap.size ≤ b) : v.ownBlock ≠ some b := fun hv => by
 have := (h.lt b hv).2; omega
end
section
variable {P : Program} {n : Nat} {σ : List Ent} {c : Prop} {wb : World} {ty : TypeId} {v : Value}

/-! structs of Wme cells, compared -/
def Xpb (P : Program) (t : TypeId) : Option Nat := match P.underlying t with
 | some (.int _) => some 0
 | some .string => some 1
 | some .bool => some 2
 | _ => none
def Ykd (P : Program) : Nat → List Field → Option (List Nat)
 | _, [] => some []
 | k, f :: fs => if Nat.beq f.offset k && f.name != "_" then match Xpb P f.type, Ykd P (k + 1) fs with
   | some a, some l => some (a :: l)
   | _, _ => none
  else none
def Wrc (P : Program) (t : TypeId) : Option (List Nat) := match P.underlying t with
 | some (.struct fs) => if P.stoodInHeld t = false ∧ P.eqGuardType P.depth t = false then Ykd P 0 fs.toList else none
 | _ => none
def eqL : List Nat → List Value → List Value → Option Bool
 | [], [], [] => some true
 | 0 :: ks, .int k a :: l, .int k' b :: l' => if k = k' then match eqL ks l l' with | some r => some (decide (a = b) && r) | none => none else none
 | 1 :: ks, .string a :: l, .string b :: l' => match eqL ks l l' with | some r => some (decide (a.data.toList = b.data.toList) && r) | none => none
 | 2 :: ks, .bool a :: l, .bool b :: l' => match eqL ks l l' with | some r => some (a == b && r) | none => none
 | _, _, _ => none
theorem Wsc {t : TypeId} (ht : tyOne P t = true) {cs : Array Value} {o : Nat} {v : Value} (hv : cs[o]? = some v) (w : World) : (part t cs o).run P w = .ok v w := by
 have : (isAgg t).run P w = .ok false w := by
  unfold tyOne at ht
  split at ht <;> try (cases ht; done)
  rename_i d hd1 hd2 hd
  simp only [isAgg, Sem.run_bind, run_underlying hd, Result.andThen_ok]
  cases d <;> simp_all
 simp [part, this, hv]
theorem Qje {t : TypeId} {k : Nat} (h : Xpb P t = some k) : tyOne P t = true := by
 unfold Xpb at h
 unfold tyOne
 split at h <;> simp_all
theorem eqL_0 {u u' : Value} {b : Bool} (he : eqL [0] [u] [u'] = some b) : ∃ k a a', u = .int k a ∧ u' = .int k a' ∧ b = decide (a = a') := by
 unfold eqL at he
 split at he
 ·rename_i h1 _ _; cases h1
 ·rename_i h1 h2 h3
  injection h2 with h2 h2'; injection h3 with h3 h3'; injection h1 with h0 h1'; subst h2' h3' h2 h3 h1'
  split at he
  ·rename_i hk; subst hk
   simp [eqL] at he
   exact ⟨_, _, _, rfl, rfl, he.symm⟩
  ·cases he
 ·rename_i h1 _ _; cases h1
 ·rename_i h1 _ _; cases h1
 ·cases he
theorem eqL_1 {u u' : Value} {b : Bool} (he : eqL [1] [u] [u'] = some b) : ∃ a a', u = .string a ∧ u' = .string a' ∧ b = decide (a.data.toList = a'.data.toList) := by
 unfold eqL at he
 split at he
 ·rename_i h1 _ _; cases h1
 ·rename_i h1 _ _; cases h1
 ·rename_i h1 h2 h3
  injection h2 with h2 h2'; injection h3 with h3 h3'; injection h1 with h0 h1'; subst h2' h3' h2 h3 h1'
  simp only [eqL, Bool.and_true, Option.some.injEq] at he
  exact ⟨_, _, rfl, rfl, he.symm⟩
 ·rename_i h1 _ _; cases h1
 ·cases he
theorem eqL_2 {u u' : Value} {b : Bool} (he : eqL [2] [u] [u'] = some b) : ∃ a a', u = .bool a ∧ u' = .bool a' ∧ b = (a == a') := by
 unfold eqL at he
 split at he
 ·rename_i h1 _ _; cases h1
 ·rename_i h1 _ _; cases h1
 ·rename_i h1 _ _; cases h1
 ·rename_i h1 h2 h3
  injection h2 with h2 h2'; injection h3 with h3 h3'; injection h1 with h0 h1'; subst h2' h3' h2 h3 h1'
  simp only [eqL, Bool.and_true, Option.some.injEq] at he
  exact ⟨_, _, rfl, rfl, he.symm⟩
 ·cases he
theorem Wte {t : TypeId} {k d : Nat} (h : Xpb P t = some k) {u u' : Value} {b : Bool} (he : eqL [k] [u] [u'] = some b) (w : World) : (Op.equalIn (d + 1) t u u').run P w = .ok b w := by
 unfold Xpb at h
 split at h <;> try (cases h; done)
 ·rename_i k0 hu
  injection h with h; subst h
  obtain ⟨k, a, a', rfl, rfl, rfl⟩ := eqL_0 he
  rw [run_equalIn_int w d t _ k0 _ _ hu]
  congr 1
 ·rename_i hu
  injection h with h; subst h
  obtain ⟨a, a', rfl, rfl, rfl⟩ := eqL_1 he
  rw [run_equalIn_string w d t _ _ hu]
  congr 1
  rw [ByteArray.toList_eq, ByteArray.toList_eq]
  rw [Bool.eq_iff_iff]; simp
 ·rename_i hu
  injection h with h; subst h
  obtain ⟨a, a', rfl, rfl, rfl⟩ := eqL_2 he
  rw [run_equalIn_bool' w d t _ _ hu]
theorem Qke {k : Nat} {ks : List Nat} {l l' : List Value} {b : Bool} (h : eqL (k :: ks) l l' = some b) : ∃ u u' r r' b1 b2, l = u :: r ∧ l' = u' :: r' ∧ eqL [k] [u] [u'] = some b1 ∧ eqL ks r r' = some b2 ∧ b = (b1 && b2) := by
 unfold eqL at h
 split at h
 ·rename_i h1; cases h1
 ·rename_i h1; injection h1 with h1 h1'; subst h1 h1'
  split at h
  ·rename_i hk; subst hk
   split at h
   ·rename_i r hr; injection h with h; exact ⟨_, _, _, _, _, r, rfl, rfl, by simp [eqL], hr, h.symm⟩
   ·cases h
  ·cases h
 ·rename_i h1; injection h1 with h1 h1'; subst h1 h1'
  split at h
  ·rename_i r hr; injection h with h; exact ⟨_, _, _, _, _, r, rfl, rfl, by simp [eqL], hr, h.symm⟩
  ·cases h
 ·rename_i h1; injection h1 with h1 h1'; subst h1 h1'
  split at h
  ·rename_i r hr; injection h with h; exact ⟨_, _, _, _, _, r, rfl, rfl, by simp [eqL], hr, h.symm⟩
  ·cases h
 ·cases h
theorem Wtc (d : Nat) : ∀ (fs : List Field) (ks : List Nat) (k : Nat) (l l' : List Value) (pre pre' : List Value) (b : Bool), Ykd P k fs = some ks → pre.length = k → pre'.length = k → eqL ks l l' = some b →
  ∀ w, (Op.eqFields (d + 1) (pre ++ l).toArray (pre' ++ l').toArray fs).run P w = .ok b w
 | [], ks, k, l, l', pre, pre', b, hf, h1, h2, he, w => by
  injection hf with hf; subst hf
  unfold eqL at he
  split at he <;> simp_all [Op.eqFields]
 | f :: fs, ks, k, l, l', pre, pre', b, hf, h1, h2, he, w => by
  unfold Ykd at hf
  split at hf
  ·rename_i hc
   simp only [Bool.and_eq_true, bne_iff_ne, ne_eq] at hc
   have hc := And.intro (Nat.eq_of_beq_eq_true hc.1) hc.2
   split at hf
   ·rename_i a ls ha hls
    injection hf with hf; subst hf
    obtain ⟨u, u', r, r', b1, b2, rfl, rfl, e1, e2, rfl⟩ := Qke he
    have ho := Qje ha
    have g1 : (pre ++ u :: r).toArray[f.offset]? = some u := by simp [hc.1, ← h1]
    have g2 : (pre' ++ u' :: r').toArray[f.offset]? = some u' := by simp [hc.1, ← h2]
    have ih := Wtc d fs ls (k + 1) r r' (pre ++ [u]) (pre' ++ [u']) b2 hls (by simp [h1]) (by simp [h2]) e2 w
    rw [List.append_assoc, List.append_assoc, List.singleton_append, List.singleton_append] at ih
    simp only [Op.eqFields, if_pos hc.2, Sem.run_bind, Wsc ho g1, Wsc ho g2, Result.andThen_ok, Wte ha e1]
    cases b1
    ·simp
    ·simpa using ih
   ·cases hf
  ·cases hf
theorem Xda {t u : TypeId} {x y : Operand} {ks : List Nat} {l l' : List Value} {b : Bool} (ht : Wrc P t = some ks) (h : Ev n σ c x (.agg l.toArray)) (h' : Ev n σ c y (.agg l'.toArray)) (he : eqL ks l l' = some b) : Rd P n σ c wb (.binOp .eql t x y u) ty (.bool b) := fun d pos after gd a ha hc w1 _ => by
 unfold Wrc at ht
 split at ht
 ·rename_i fs hfs
  split at ht
  ·rename_i hk
   have hfo : P.fieldsOf t = fs := by simp [Program.fieldsOf, hfs]
   have k2 := run_equalIn_struct w1 9999 t l.toArray l'.toArray (by rw [hfo]; exact hfs) hk.1
   have k3 := Wtc 9998 fs.toList ks 0 l l' [] [] b ht rfl rfl he w1
   simp only [List.nil_append] at k3
   rw [hfo, k3] at k2
   simp [execOp, h a ha hc, h' a ha hc, run_eqGuard_agg w1 .eql t x y l.toArray l'.toArray hk.2, run_eql_struct, k2]
  ·cases ht
 ·cases ht
theorem Wac {t u : TypeId} {x y : Operand} {ks : List Nat} {l l' : List Value} {b : Bool} (ht : Wrc P t = some ks) (h : Ev n σ c x (.agg l.toArray)) (h' : Ev n σ c y (.agg l'.toArray)) (he : eqL ks l l' = some b) : Rd P n σ c wb (.binOp .neq t x y u) ty (.bool (!b)) := fun d pos after gd a ha hc w1 _ => by
 unfold Wrc at ht
 split at ht
 ·rename_i fs hfs
  split at ht
  ·rename_i hk
   have hfo : P.fieldsOf t = fs := by simp [Program.fieldsOf, hfs]
   have k2 := run_equalIn_struct w1 9999 t l.toArray l'.toArray (by rw [hfo]; exact hfs) hk.1
   have k3 := Wtc 9998 fs.toList ks 0 l l' [] [] b ht rfl rfl he w1
   simp only [List.nil_append] at k3
   rw [hfo, k3] at k2
   simp [execOp, h a ha hc, h' a ha hc, run_eqGuard_agg w1 .neq t x y l.toArray l'.toArray hk.2, run_neq_struct, k2]
  ·cases ht
 ·cases ht

/-! an array's element, by value -/
def Jnd (P : Program) (t : TypeId) : Option Nat := match P.underlying t with
 | some (.array m e) => if tyOne P e = true ∧ tySize P e = some 1 then some m else none
 | _ => none
theorem Xrf {t m : Nat} {x y : Operand} {cs : Array Value} {k : IntKind} {i : Int} {v : Value} (ht : Jnd P t = some m) (h : Ev n σ c x (.agg cs)) (h' : Ev n σ c y (.int k i)) (hi : c → 0 ≤ i ∧ i < m) (hv : c → cs[i.toNat]? = some v) :
  Rd P n σ c wb (.index t x y) ty v := fun d pos after gd a ha hc w1 _ => by
 obtain ⟨h0, h1⟩ := hi hc
 unfold Jnd at ht
 split at ht
 ·rename_i m' e hu
  split at ht
  ·rename_i hk
   injection ht with ht; subst ht
   obtain ⟨ho, hz⟩ := hk
   unfold tySize at hz
   cases hi2 : P.info? e with
   | none => rw [hi2] at hz; cases hz
   | some inf =>
    rw [hi2] at hz; injection hz with hz
    have hs : (sizeOf e).run P w1 = .ok 1 w1 := by
     have := hz; simp [sizeOf, typeInfo, run_program, hi2, hz]
    simp [execOp, h a ha hc, h' a ha hc, Instr.index, asIntOf, run_underlying hu, h0, h1, hs, Wsc ho (hv hc)]
  ·cases ht
 ·cases ht

/-! nil -/
def nilV : Value → Bool
 | .nilIface => true
 | _ => false
theorem Qzf {t u : TypeId} {x : Operand} {e : Value} (ht : P.isIface t = true) (h : Ev n σ c x e) (he : e = .nilIface ∨ ∃ a b, e = .iface a b) : Rd P n σ c wb (.binOp .neq t x (.const .nilIface) u) ty (.bool (!nilV e)) := fun d pos after gd a ha hc w1 _ => by
 rcases he with rfl | ⟨t1, u1, rfl⟩
 ·simp [execOp, h a ha hc, Ztb, eqGuard, binOp, Op.equal, Op.maxDepth, run_equalIn_nil_nil_at w1 9999 t ht, nilV]
 ·simp [execOp, h a ha hc, Ztb, eqGuard, binOp, Op.equal, Op.maxDepth, run_equalIn_iface_nil w1 9999 t ht, nilV]
/-! slices of slices -/
theorem Qnb {e : TypeId} {i : TypeInfo} (hi : P.info? e = some i) (w : World) : (sizeOf e).run P w = .ok i.size w := by simp [sizeOf, typeInfo, run_program, hi]
theorem Vcd {t e z by_ : Nat} {x y : Operand} {o : Option Addr} {m q : Nat} {k : IntKind} {j : Int} (ht : tyElem P t = some (e, z, by_)) (h : Ev n σ c x (.slice o m q)) (h' : Ev n σ c y (.int k j)) (hi : c → 0 ≤ j ∧ j ≤ q) :
  Rd P n σ c wb (.slice t x none (some y) none) ty (.slice o j.toNat q) := fun d pos after gd a ha hc w1 _ => by
 obtain ⟨hu, i, hin, hz, _⟩ := Jc ht
 have e1 := hi hc
 have e2 : o.map (fun b => Addr.add b 0) = o := by cases o <;> simp [Addr.add]
 simp only [execOp, h a ha hc, h' a ha hc, Instr.sliceAt, Option.map_some, Option.map_none, Sem.run_bind, run_underlying hu, Result.andThen_ok]
 simp [Instr.slice, run_underlying hu, Instr.sliceBounds, Instr.sliceBound, asIntOf, e1, Qnb hin, e2]
theorem Ywe {f : FuncId} {fs cs : Array Operand} {vs us : List Value} (h : Zvb n σ c fs.toList vs) (h' : Zvb n σ c cs.toList us) : Rd P n σ c wb (.makeFunc (.func f) fs cs) ty (.func (.func f) vs.toArray us.toArray) := fun d pos after gd a ha hc w1 _ => by
 have e1 := h a ha hc
 have e2 := h' a ha hc
 have e3 : fs.map a.eval = vs.toArray := by rw [← e1, ← Array.toList_map, Array.toArray_toList]
 have e4 : cs.map a.eval = us.toArray := by rw [← e2, ← Array.toList_map, Array.toArray_toList]
 simp [execOp, Instr.makeFunc, e3, e4]
/-! numbers of other sizes -/
theorem Xsf {t u : TypeId} {x y : Operand} {k : IntKind} {i j r : Int} (h : Ev n σ c x (.int k i)) (h' : Ev n σ c y (.int k j)) (hr : c → k.wrap (i - j) = r) : Rd P n σ c wb (.binOp .sub t x y u) ty (.int k r) := fun d pos after gd a ha hc w1 hg => by
 have := Yhd (P := P) (t := t) (u := u) (wb := wb) (ty := ty) h h' d pos after gd a ha hc w1 hg
 rw [hr hc] at this; exact this
/-! results that lie in cells -/
def rdRes (tmps : Array Value) : ResultVar → Sem Value
 | .tmp t => pure (tmps.getD t undef)
 | .cell a t => do loadVar t (← asAddr (tmps.getD a undef))
def EvR (P : Program) (n : Nat) (σ : List Ent) (w : World) (rs : List ResultVar) (vs : List Value) : Prop := ∀ a, Kn n σ a → (rs.mapM (rdRes a.tmps)).run P w = .ok vs w
theorem Yf {w : World} : EvR P n σ w [] [] := fun _ _ => rfl
theorem Vdd {w : World} {r : ResultVar} {rs : List ResultVar} {vs : List Value} (h : ∀ a, Kn n σ a → (rdRes a.tmps r).run P w = .ok v w) (k : EvR P n σ w rs vs) : EvR P n σ w (r :: rs) (v :: vs) := fun a ha => by
 have h1 := h a ha
 have h2 := k a ha
 rw [List.mapM_cons]
 simp only [Sem.run_bind, Sem.run_pure, h1, h2, Result.andThen_ok]
theorem Wg {w : World} {t : Nat} {rs : List ResultVar} {vs : List Value} (h : look σ t = some (True, v)) (k : EvR P n σ w rs vs) : EvR P n σ w (.tmp t :: rs) (v :: vs) := Vdd (fun a ha => by
 have := ha.at_ h trivial
 simp [rdRes, this]) k
theorem Yy {w : World} {t b o z : Nat} {T : TypeId} {l : List Value} {rs : List ResultVar} {vs : List Value} (h : look σ t = some (True, .pointer (some ⟨b, o, none⟩))) (ht : Ywb P T = some z) (hl : l.length = z) (hc : RowAt w b o l) (k : EvR P n σ w rs vs) : EvR P n σ w (.cell t T :: rs) (.agg l.toArray :: vs) := Vdd (fun a ha => by
 have := ha.at_ h trivial
 have h2 := Yac ht hl hc
 simp [rdRes, this, asAddr, h2]) k
theorem Wb {fn : Func} {R : Value → World → Prop} {w : World} {rs : List ResultVar} {vs : List Value} (hr : fn.results = rs.toArray) (h2 : Nat.beq rs.length 1 = false) (hl : EvR P n σ w rs vs) (hlen : vs.length = rs.length) (h : R (.tuple vs.toArray) w) :
  ∀ a, Kn n σ a → bodyPost P fn (fun e w' => ∃ v, e = .returned v ∧ R v w') .ret a w := fun a ha => by
 refine bodyPost_ret (v := .tuple vs.toArray) ?_ ha.2.1 ⟨_, rfl, h⟩
 have h1 := hl a ha
 have hres : results fn a.tmps = (do let vs ← fn.results.mapM (rdRes a.tmps); pure (if h : vs.size = 1 then vs[0] else .tuple vs)) := by
  unfold results
  congr 1
 rw [hres, hr, Array.mapM_eq_mapM_toList]
 simp only [Sem.run_bind, Sem.run_map, h1, Result.andThen_ok]
 have hn : vs.length ≠ 1 := by rw [hlen]; intro he; rw [he] at h2; cases h2
 simp [hn]
theorem Xj {fn : Func} {R : Value → World → Prop} {w : World} {r : ResultVar} (hr : fn.results = #[r]) (hl : EvR P n σ w [r] [v]) (h : R v w) :
  ∀ a, Kn n σ a → bodyPost P fn (fun e w' => ∃ v, e = .returned v ∧ R v w') .ret a w := fun a ha => by
 refine bodyPost_ret (v := v) ?_ ha.2.1 ⟨_, rfl, h⟩
 have h1 := hl a ha
 have hres : results fn a.tmps = (do let vs ← fn.results.mapM (rdRes a.tmps); pure (if h : vs.size = 1 then vs[0] else .tuple vs)) := by
  unfold results
  congr 1
 rw [hres, hr, Array.mapM_eq_mapM_toList]
 simp only [Sem.run_bind, Sem.run_map, h1, Result.andThen_ok]
 simp
end
structure RelX where
 r : World → World → Prop
 refl : ∀ w, r w w
 trans : ∀ {a b c : World}, r a b → r b c → r a c
@[reducible] def rowR (row : Option Nat) : RelX := ⟨fun w w' => w.grownBy w' row, fun w => (G.refl w).only row, fun h k => Uhb h k⟩
abbrev GX (row : RelX) (w w' : World) : Prop := row.r w w'
theorem GX.refl (row : RelX) (w : World) : GX row w w := row.refl w
def EffQ (P : Program) (Z : List PanicEntry → Act → World → Prop) (row : RelX) (gr : Bool) (o : Oper) (a : Act) (w : World) (next : Act → World → Prop) : Prop :=
 (∃ v w', (execOp a.eval o).run P w = .ok (.value v) w' ∧ (gr = true → GX row w w') ∧ next (a.put o.dst v) w') ∨
 (∃ w', (execOp a.eval o).run P w = .ok .skip w' ∧ (gr = true → GX row w w') ∧ next (a.put o.dst undef) w') ∨
 (∃ f args, (execOp a.eval o).run P w = .ok (.enter f args) w ∧ Calls P f args w fun e w' => (∃ v, e = .returned v ∧ (gr = true → GX row w w') ∧ next (a.put o.dst v) w') ∨ (∃ ch, e = .panicked ch ∧ Z ch a w')) ∨
 (∃ l f tmps asg body, (execOp a.eval o).run P w = .ok (.round l f tmps asg body) w ∧ RoundIn Fence.wide 0 P l f tmps asg body w fun e w' => ∃ v, e = .returned v ∧ (gr = true → GX row w w') ∧ next (a.put o.dst v) w')
theorem EffQ.wpIn {P : Program} {Z : List PanicEntry → Act → World → Prop} {row : RelX} {gr : Bool} {o : Oper} {a : Act} {w : World} {next : Act → World → Prop} {Q : Exit → Act → World → Prop} {ρ : Option Nat}
  (h : EffQ P Z row gr o a w next) (hZ : ∀ ch w', Z ch a w' → Q (.panic ch) a w') : o.wpIn (WF ρ) 0 P a w next Q := by
 refine Eff.wpIn (Z := Z) (gr := false) ?_ hZ
 rcases h with ⟨v, w', hr, _, hn⟩ | ⟨w', hr, _, hn⟩ | ⟨f, args, hr, hc⟩ | ⟨l, f, tmps, asg, body, hr, hc⟩
 ·exact .inl ⟨v, w', hr, (fun h => by cases h), hn⟩
 ·exact .inr (.inl ⟨w', hr, (fun h => by cases h), hn⟩)
 ·refine .inr (.inr (.inl ⟨f, args, hr, Calls.mono hc fun e w' h => ?_⟩))
  rcases h with ⟨v, e1, _, h1⟩ | ⟨ch, e1, h1⟩
  ·exact .inl ⟨v, e1, (fun h => by cases h), h1⟩
  ·exact .inr ⟨ch, e1, h1⟩
 ·refine .inr (.inr (.inr ⟨l, f, tmps, asg, body, hr, RoundIn.mono hc fun e w' h => ?_⟩))
  obtain ⟨v, e1, _, h1⟩ := h
  exact ⟨v, e1, (fun h => by cases h), h1⟩
theorem EffQ.turn {P : Program} {Z Z' : List PanicEntry → Act → World → Prop} {row : RelX} {gr : Bool} {o : Oper} {a b : Act} {w : World} {next next' : Act → World → Prop} (he : execOp b.eval o = execOp a.eval o)
  (hz : ∀ ch w', Z ch a w' → Z' ch b w')
  (hn : ∀ v w', (gr = true → GX row w w') → next (a.put o.dst v) w' → next' (b.put o.dst v) w') (h : EffQ P Z row gr o a w next) : EffQ P Z' row gr o b w next' := by
 rcases h with ⟨v, w', hr, hg, h1⟩ | ⟨w', hr, hg, h1⟩ | ⟨f, args, hr, hc⟩ | ⟨l, f, tmps, asg, body, hr, hc⟩
 ·exact .inl ⟨v, w', by rw [he]; exact hr, hg, hn _ _ hg h1⟩
 ·exact .inr (.inl ⟨w', by rw [he]; exact hr, hg, hn _ _ hg h1⟩)
 ·refine .inr (.inr (.inl ⟨f, args, by rw [he]; exact hr, Calls.mono hc fun e w' h => ?_⟩))
  rcases h with ⟨v, e1, hg, h1⟩ | ⟨ch, e1, h1⟩
  ·exact .inl ⟨v, e1, hg, hn _ _ hg h1⟩
  ·exact .inr ⟨ch, e1, hz _ _ h1⟩
 ·refine .inr (.inr (.inr ⟨l, f, tmps, asg, body, by rw [he]; exact hr, RoundIn.mono hc fun e w' h => ?_⟩))
  obtain ⟨v, e1, hg, h1⟩ := h
  exact ⟨v, e1, hg, hn _ _ hg h1⟩
def Avail (wt : Nat → Nat → Bool) (L : List Nat) (j : Nat) : Prop := ∀ i ∈ L, wt j i = false
section
variable (P : Program) (Z : List PanicEntry → Act → World → Prop) (ops : Array Oper) (cl : Nat → Nat) (wt : Nat → Nat → Bool) (row : RelX) (K : Act → World → Prop)
def RT : Nat → List Nat → Act → World → Prop
 | 0, L, a, w => L = [] ∧ K a w
 | n + 1, L, a, w =>
  (∃ r, r ∈ L ∧ Avail wt L r ∧ (cl r = 0 ∨ cl r = 3) ∧ ∃ o, ops[r]? = some o ∧ ∃ v, (Region.wanted o (yielded ops a.tmps) = true → ∀ w1, cl r = 3 ∨ GX row w w1 → (execOp a.eval o).run P w1 = .ok (.value v) w1) ∧
   (Region.wanted o (yielded ops a.tmps) = false → v = undef) ∧ RT n (L.erase r) (a.put o.dst v) w) ∨
  ((∀ r ∈ L, Avail wt L r → ¬ (cl r = 0 ∨ cl r = 3)) ∧ ∀ j ∈ L, Avail wt L j → ∃ o, ops[j]? = some o ∧
   if Region.wanted o (yielded ops a.tmps) = true then EffQ P Z row (cl j == 1) o a w (fun a' w' => RT n (L.erase j) a' w') else RT n (L.erase j) (a.put o.dst undef) w)
end
section
variable {P : Program} {Z : List PanicEntry → Act → World → Prop} {ops : Array Oper} {cl : Nat → Nat} {wt : Nat → Nat → Bool} {row : RelX} {K : Act → World → Prop}
structure OkayT (ops : Array Oper) (cl : Nat → Nat) (wt : Nat → Nat → Bool) : Prop where
 sel : ∀ (j : Nat) (o : Oper) cs b, ops[j]? = some o → o.op ≠ .select cs b
 way : ∀ (j : Nat) (o : Oper) (i : Nat), ops[j]? = some o → wt j i = true → ∃ e, e ∈ o.after ∧ Region.binds .any e = true ∧ (e.on = i ∨ wt e.on i = true)
 lt : ∀ (j : Nat) (o : Oper) (e : Edge), ops[j]? = some o → e ∈ o.after → Region.binds .any e = true → e.on < j
 pair : ∀ (i j : Nat) (oi oj : Oper), i < j → ops[i]? = some oi → ops[j]? = some oj → wt j i = false → (¬ (cl i = 0 ∨ cl i = 3) ∧ ¬ (cl j = 0 ∨ cl j = 3)) ∨ (oi.apart ops oj = true ∧ (cl i = 3 ∨ cl j = 3 ∨ (cl i = 0 ∧ cl j ≤ 1) ∨ (cl j = 0 ∧ cl i ≤ 1)))
theorem OkayT.both (ok : OkayT ops cl wt) {r j : Nat} {or oj : Oper} (hr : ops[r]? = some or) (hj : ops[j]? = some oj) (hne : r ≠ j) (h1 : wt r j = false) (h2 : wt j r = false) (hc : cl r = 0 ∨ cl r = 3) :
  ((∀ d, or.dst = some d → d ∉ oj.looksAt ops) ∧ (∀ d, or.dst = some d → oj.dst ≠ some d) ∧ (∀ d, oj.dst = some d → d ∉ or.looksAt ops)) ∧ (cl r = 3 ∨ (cl r = 0 ∧ (cl j = 3 ∨ cl j ≤ 1))) := by
 rcases Nat.lt_or_gt_of_ne hne with hlt | hlt
 ·rcases ok.pair r j or oj hlt hr hj h2 with h | ⟨h, hh⟩
  ·exact absurd hc h.1
  ·refine ⟨Oper.apart_spec h, ?_⟩
   rcases hc with hc | hc
   ·right; refine ⟨hc, ?_⟩; omega
   ·exact .inl hc
 ·rcases ok.pair j r oj or hlt hj hr h1 with h | ⟨h, hh⟩
  ·exact absurd hc h.2
  ·obtain ⟨p1, p2, p3⟩ := Oper.apart_spec h
   refine ⟨⟨p3, fun d hd he => p2 d he hd, p1⟩, ?_⟩
   rcases hc with hc | hc
   ·right; refine ⟨hc, ?_⟩; omega
   ·exact .inl hc
theorem Avail.erase {L : List Nat} {j r : Nat} (h : Avail wt L j) : Avail wt (L.erase r) j := fun i hi => h i (List.mem_of_mem_erase hi)
theorem Qle {row : RelX} {a b c : World} (h : GX row a b) (k : GX row b c) : GX row a c := row.trans h k
theorem Wue (ok : OkayT ops cl wt) {j : Nat} {oj : Oper} (hj : ops[j]? = some oj) (hcj : cl j = 0 ∨ cl j = 3) :
  ∀ (n : Nat) (L : List Nat) (a : Act) (w : World), L.length = n + 1 → L.Nodup → j ∈ L → Avail wt L j → RT P Z ops cl wt row K (n + 1) L a w →
  ∃ v, (Region.wanted oj (yielded ops a.tmps) = true → ∀ w1, cl j = 3 ∨ GX row w w1 → (execOp a.eval oj).run P w1 = .ok (.value v) w1) ∧
   (Region.wanted oj (yielded ops a.tmps) = false → v = undef) ∧ RT P Z ops cl wt row K n (L.erase j) (a.put oj.dst v) w := by
 intro n
 induction n with
 | zero =>
  intro L a w hn nd hm hav h
  obtain ⟨x, rfl⟩ : ∃ x, L = [x] := List.length_eq_one_iff.1 hn
  obtain rfl : j = x := List.mem_singleton.1 hm
  rcases h with ⟨r, hr, hra, hc, o, ho, v, h1, h2, h3⟩ | ⟨hno, _⟩
  ·obtain rfl : r = j := List.mem_singleton.1 hr
   obtain rfl : o = oj := Option.some.inj (ho.symm.trans hj)
   exact ⟨v, h1, h2, h3⟩
  ·exact absurd hcj (hno j hm hav)
 | succ n ih =>
  intro L a w hn nd hm hav h
  rcases h with ⟨r, hr, hra, hc, o, ho, u, h1, h2, h3⟩ | ⟨hno, _⟩
  ·by_cases hrj : r = j
   ·subst hrj
    obtain rfl : o = oj := Option.some.inj (ho.symm.trans hj)
    exact ⟨u, h1, h2, h3⟩
   ·obtain ⟨⟨p1, p2, p3⟩, _⟩ := ok.both ho hj hrj (hra j hm) (hav r hr) hc
    have evj : ∀ v, execOp (a.put o.dst v).eval oj = execOp a.eval oj := fun v => execOp_put (ops := ops) oj (fun cs b => ok.sel j oj cs b hj) a o.dst v p1
    have waj : ∀ v, Region.wanted oj (yielded ops (a.put o.dst v).tmps) = Region.wanted oj (yielded ops a.tmps) := fun v => wanted_put oj a o.dst v p1
    have evi : ∀ v, execOp (a.put oj.dst v).eval o = execOp a.eval o := fun v => execOp_put (ops := ops) o (fun cs b => ok.sel r o cs b ho) a oj.dst v p3
    have wai : ∀ v, Region.wanted o (yielded ops (a.put oj.dst v).tmps) = Region.wanted o (yielded ops a.tmps) := fun v => wanted_put o a oj.dst v p3
    have hmj : j ∈ L.erase r := nd.mem_erase_iff.2 ⟨fun h => hrj h.symm, hm⟩
    have hmr : r ∈ L.erase j := nd.mem_erase_iff.2 ⟨hrj, hr⟩
    obtain ⟨v, k1, k2, k3⟩ := ih (L.erase r) _ w (by rw [List.length_erase_of_mem hr]; omega) (nd.erase r) hmj hav.erase h3
    rw [waj] at k1 k2
    rw [evj] at k1
    refine ⟨v, k1, k2, .inl ⟨r, hmr, hra.erase, hc, o, ho, u, ?_, ?_, ?_⟩⟩
    ·rw [wai, evi]; exact h1
    ·rw [wai]; exact h2
    ·rw [List.erase_comm, ← Act.put_comm a u v p2]; exact k3
  ·exact absurd hcj (hno j hm hav)
theorem Jod (hZs : ∀ ch (a : Act) d v w, Z ch (a.put d v) w → Z ch a w) (ok : OkayT ops cl wt) {j : Nat} {oj : Oper} (hj : ops[j]? = some oj) (hcj : ¬ (cl j = 0 ∨ cl j = 3)) :
  ∀ (n : Nat) (L : List Nat) (a : Act) (w : World), L.length = n + 1 → L.Nodup → j ∈ L → Avail wt L j → RT P Z ops cl wt row K (n + 1) L a w →
  if Region.wanted oj (yielded ops a.tmps) = true then EffQ P Z row (cl j == 1) oj a w (fun a' w' => RT P Z ops cl wt row K n (L.erase j) a' w')
  else RT P Z ops cl wt row K n (L.erase j) (a.put oj.dst undef) w := by
 intro n
 induction n with
 | zero =>
  intro L a w hn nd hm hav h
  obtain ⟨x, rfl⟩ : ∃ x, L = [x] := List.length_eq_one_iff.1 hn
  obtain rfl : j = x := List.mem_singleton.1 hm
  rcases h with ⟨r, hr, hra, hc, _⟩ | ⟨_, hall⟩
  ·obtain rfl : r = j := List.mem_singleton.1 hr
   exact absurd hc hcj
  ·obtain ⟨o, ho, hb⟩ := hall j hm hav
   obtain rfl : o = oj := Option.some.inj (ho.symm.trans hj)
   exact hb
 | succ n ih =>
  intro L a w hn nd hm hav h
  rcases h with ⟨r, hr, hra, hc, o, ho, u, h1, h2, h3⟩ | ⟨_, hall⟩
  ·have hrj : r ≠ j := fun e => hcj (e ▸ hc)
   obtain ⟨⟨p1, p2, p3⟩, hq⟩ := ok.both ho hj hrj (hra j hm) (hav r hr) hc
   have evj : ∀ v, execOp (a.put o.dst v).eval oj = execOp a.eval oj := fun v => execOp_put (ops := ops) oj (fun cs b => ok.sel j oj cs b hj) a o.dst v p1
   have waj : ∀ v, Region.wanted oj (yielded ops (a.put o.dst v).tmps) = Region.wanted oj (yielded ops a.tmps) := fun v => wanted_put oj a o.dst v p1
   have evi : ∀ v, execOp (a.put oj.dst v).eval o = execOp a.eval o := fun v => execOp_put (ops := ops) o (fun cs b => ok.sel r o cs b ho) a oj.dst v p3
   have wai : ∀ v, Region.wanted o (yielded ops (a.put oj.dst v).tmps) = Region.wanted o (yielded ops a.tmps) := fun v => wanted_put o a oj.dst v p3
   have hmj : j ∈ L.erase r := nd.mem_erase_iff.2 ⟨fun h => hrj h.symm, hm⟩
   have hmr : r ∈ L.erase j := nd.mem_erase_iff.2 ⟨hrj, hr⟩
   have k := ih (L.erase r) _ w (by rw [List.length_erase_of_mem hr]; omega) (nd.erase r) hmj hav.erase h3
   rw [waj] at k
   have back : ∀ x w', (cl j = 1 → GX row w w') → RT P Z ops cl wt row K n ((L.erase r).erase j) ((a.put o.dst u).put oj.dst x) w' → RT P Z ops cl wt row K (n + 1) (L.erase j) (a.put oj.dst x) w' := by
    intro x w' hg hk
    refine .inl ⟨r, hmr, hra.erase, hc, o, ho, u, ?_, ?_, ?_⟩
    ·rw [wai, evi]
     intro hw w1 hg1
     refine h1 hw w1 ?_
     rcases hg1 with hg1 | hg1
     ·exact .inl hg1
     ·rcases hq with hq | ⟨_, hq⟩
      ·exact .inl hq
      ·refine .inr (Qle (hg ?_) hg1)
       have : ¬ cl j = 0 := fun e => hcj (.inl e)
       have : ¬ cl j = 3 := fun e => hcj (.inr e)
       omega
    ·rw [wai]; exact h2
    ·rw [List.erase_comm, ← Act.put_comm a u x p2]; exact hk
   by_cases hwj : Region.wanted oj (yielded ops a.tmps) = true
   ·rw [if_pos hwj] at k ⊢
    exact k.turn (evj u).symm (fun ch w' h => hZs _ _ _ _ _ h) fun x w' hg hk => back x w' (fun h => hg (by simp [h])) hk
   ·rw [if_neg hwj] at k ⊢
    exact back _ _ (fun _ => GX.refl _ _) k
  ·obtain ⟨o, ho, hb⟩ := hall j hm hav
   obtain rfl : o = oj := Option.some.inj (ho.symm.trans hj)
   exact hb
theorem Left.waitsT (ok : OkayT ops cl wt) {L : List Nat} {listed : Array Bool} (hL : Left ops L listed) :
  ∀ (n j : Nat) (oj : Oper), j ≤ n → ops[j]? = some oj → (∀ e ∈ oj.after, Region.binds .any e = true → e.on ∉ L) → ∀ i ∈ L, wt j i = false := by
 intro n
 induction n with
 | zero =>
  intro j oj hjn hj _ i _
  cases hw : wt j i with
  | false => rfl
  | true =>
   obtain ⟨e, he, hb, _⟩ := ok.way j oj i hj hw
   have := ok.lt j oj e hj he hb
   omega
 | succ n ih =>
  intro j oj hjn hj hall i hi
  cases hw : wt j i with
  | false => rfl
  | true =>
   obtain ⟨e, he, hb, hh⟩ := ok.way j oj i hj hw
   have hlt := ok.lt j oj e hj he hb
   have hnot := hall e he hb
   rcases hh with rfl | hh
   ·exact absurd hi hnot
   ·have hes : e.on < ops.size := by have := (Array.getElem?_eq_some_iff.1 hj).1; omega
    have hoe : ops[e.on]? = some ops[e.on] := Array.getElem?_eq_getElem hes
    have := ih e.on _ (by omega) hoe (hL.closed e.on _ hoe hnot) i hi
    rw [this] at hh; cases hh
theorem Wve {ρ : Option Nat} (hZs : ∀ ch (a : Act) d v w, Z ch (a.put d v) w → Z ch a w) (ok : OkayT ops cl wt) {Q : Exit → Act → World → Prop} (hQ : ∀ a w, K a w → Q .normal a w) (hZ : ∀ ch a w, Z ch a w → Q (.panic ch) a w) :
  ∀ (n : Nat) (L : List Nat) (listed : Array Bool) (a : Act) (w : World), L.length = n → Left ops L listed → RT P Z ops cl wt row K n L a w → wpAnyIn (WF ρ) 0 P .any ops Q n listed a w := by
 intro n
 induction n with
 | zero =>
  intro L listed a w hn hL h
  obtain rfl : L = [] := List.eq_nil_of_length_eq_zero hn
  refine ⟨?_, hQ _ _ h.2⟩
  refine List.eq_nil_iff_forall_not_mem.2 fun j hj => ?_
  obtain ⟨h0, o, ho, _⟩ := mem_ready.1 hj
  have := (hL.mem j).2 ⟨(Array.getElem?_eq_some_iff.1 ho).1, h0⟩
  cases this
 | succ n ih =>
  intro L listed a w hn hL h
  have nd : L.Nodup := hL.sorted.imp (fun h => Nat.ne_of_lt h)
  have inL : ∀ j, j ∈ Region.ready .any ops listed → ∃ oj, ops[j]? = some oj ∧ j ∈ L ∧ ∀ e ∈ oj.after, Region.binds .any e = true → e.on ∉ L := by
   intro j hj
   obtain ⟨h0, oj, ho, hall⟩ := mem_ready.1 hj
   have hjs := (Array.getElem?_eq_some_iff.1 ho).1
   refine ⟨oj, ho, (hL.mem j).2 ⟨hjs, h0⟩, fun e he hb hm => ?_⟩
   have h1 := hall e he hb
   obtain ⟨h2, h3⟩ := (hL.mem e.on).1 hm
   have h4 : e.on < listed.size := by rw [hL.size]; exact h2
   simp [h4] at h1 h3
   rw [h1] at h3; cases h3
  refine ⟨fun h0 => ?_, fun j hj => ?_⟩
  ·exfalso
   match L, hn, hL with
   | i :: rest, _, hL =>
    have him := (hL.mem i).1 List.mem_cons_self
    have hoi : ops[i]? = some ops[i] := Array.getElem?_eq_getElem him.1
    have : i ∈ Region.ready .any ops listed := by
     refine mem_ready.2 ⟨him.2, _, hoi, fun e he hb => ?_⟩
     have hlt := ok.lt i _ e hoi he hb
     have hno : e.on ∉ i :: rest := by
      intro hm
      rcases List.mem_cons.1 hm with hm | hm
      ·omega
      ·have := (List.pairwise_cons.1 hL.sorted).1 _ hm; omega
     have hes : e.on < listed.size := by rw [hL.size]; omega
     cases hl : listed.getD e.on true with
     | false => exact absurd ((hL.mem e.on).2 ⟨by rw [← hL.size]; exact hes, hl⟩) hno
     | true => simpa [hes] using hl
    rw [h0] at this; cases this
  ·obtain ⟨oj, hoj, hjL, hall⟩ := inL j hj
   have hws : ∀ i ∈ L, wt j i = false := hL.waitsT ok j j oj (Nat.le_refl _) hoj hall
   have hL' := hL.step hoj hall
   have hlen : (L.erase j).length = n := by rw [List.length_erase_of_mem hjL]; omega
   unfold wpOpIn
   simp only [hoj]
   by_cases hc : cl j = 0 ∨ cl j = 3
   ·obtain ⟨v, h1, h2, h3⟩ := Wue ok hoj hc n L a w hn nd hjL hws h
    have hnext := ih (L.erase j) _ (a.put oj.dst v) w hlen hL' h3
    by_cases hwj : Region.wanted oj (yielded ops a.tmps) = true
    ·rw [if_pos hwj]
     have hr := h1 hwj w (.inr (GX.refl _ _))
     refine ⟨fun _ _ => trivial, ?_⟩
     rw [Uua hr (fun d h => by cases h), hr]
     exact hnext
    ·rw [if_neg hwj]
     have := h2 (by simpa using hwj)
     subst this
     exact ⟨fun _ _ => trivial, hnext⟩
   ·have h1 := Jod hZs ok hoj hc n L a w hn nd hjL hws h
    by_cases hwj : Region.wanted oj (yielded ops a.tmps) = true
    ·rw [if_pos hwj] at h1 ⊢
     refine EffQ.wpIn (Z := Z) (gr := cl j == 1) (row := row) ?_ (fun ch w' h => hZ _ _ _ h)
     exact h1.turn rfl (fun _ _ h => h) fun v w' _ hk => ih (L.erase j) _ _ w' hlen hL' hk
    ·rw [if_neg hwj] at h1 ⊢
     exact ⟨fun _ _ => trivial, ih (L.erase j) _ _ w hlen hL' h1⟩
theorem Jpd {ρ : Option Nat} (hZs : ∀ ch (a : Act) d v w, Z ch (a.put d v) w → Z ch a w) (ok : OkayT ops cl wt) {id : Nat} {Q : Exit → Act → World → Prop} (hZ : ∀ ch a w, Z ch a w → Q (.panic ch) a w) {a : Act} {w : World} (hm : P.follows .mixedOrders = true)
  (h : RT P Z ops cl wt row (fun a w => Q .normal a w) ops.size (List.range ops.size) a w.drew) : (Code.region id ops true).wpIn (WF ρ) 0 P Q a w := by
 refine wpIn_region_any hm ?_
 have := Wve (Q := Q) (ρ := ρ) hZs ok (fun _ _ h => h) hZ ops.size (List.range ops.size) (Array.replicate ops.size false) a w.drew (by simp) (Wmc ops) h
 simpa using this
theorem Qme (ok : OkayT ops cl wt) {id : Nat} {Q : Exit → Act → World → Prop} {a : Act} {w : World} (hm : P.follows .mixedOrders = true)
  (h : RT P NoP ops cl wt row (fun a w => Q .normal a w) ops.size (List.range ops.size) a w.drew) : (Code.region id ops true).wp P Q a w :=
 wpIn_wide.1 (Jpd (ρ := none) (fun _ _ _ _ _ h => h) ok (fun _ _ _ h => h.elim) hm h)
end

/-! a look at the region's text -/
def Wuc (ops : Array Oper) (cl : List Nat) (ms : List Nat) (E : List (Nat × Oper × Nat)) (k : Nat) (o : Oper) : Bool :=
 Yse o && o.after.toList.all (fun e => !Region.binds .any e || Nat.blt e.on k) && Nat.beq (ms.getD k 0) (maskOf ms o.after.toList) &&
 E.all (fun p => (ms.getD k 0).testBit p.1 || (!(Nat.beq p.2.2 0 || Nat.beq p.2.2 3) && !(Nat.beq (clOf cl k) 0 || Nat.beq (clOf cl k) 3)) || (p.2.1.apart ops o && (Nat.beq p.2.2 3 || Nat.beq (clOf cl k) 3 || (Nat.beq p.2.2 0 && Nat.ble (clOf cl k) 1) || (Nat.beq (clOf cl k) 0 && Nat.ble p.2.2 1))))
def lookFromT (ops : Array Oper) (cl : List Nat) (ms : List Nat) : List (Nat × Oper × Nat) → Nat → List Oper → Bool
 | _, _, [] => true
 | E, k, o :: rest => Wuc ops cl ms E k o && lookFromT ops cl ms ((k, o, clOf cl k) :: E) (k + 1) rest
def okT (l : List Oper) (cl : List Nat) (ms : List Nat) : Bool := lookFromT l.toArray cl ms [] 0 l && Nat.ble ms.length l.length
theorem Xqb (ops : Array Oper) (cl : List Nat) (ms : List Nat) : ∀ (l : List Oper) (E : List (Nat × Oper × Nat)) (k : Nat),
  (∀ j, l[j]? = ops[k + j]?) → (∀ i, i < k → ∃ oi, ops[i]? = some oi ∧ (i, oi, clOf cl i) ∈ E) → lookFromT ops cl ms E k l = true →
  ∀ j oj, k ≤ j → ops[j]? = some oj → ∃ E', (∀ i, i < j → ∃ oi, ops[i]? = some oi ∧ (i, oi, clOf cl i) ∈ E') ∧ Wuc ops cl ms E' j oj = true
 | [], _, k, hl, _, _ => by
  intro j oj hkj hj
  have := hl (j - k)
  rw [show k + (j - k) = j by omega, hj] at this
  simp at this
 | o :: rest, E, k, hl, hE, h => by
  intro j oj hkj hj
  unfold lookFromT at h
  rw [Bool.and_eq_true] at h
  have h0 : ops[k]? = some o := by simpa using (hl 0).symm
  by_cases hjk : j = k
  ·subst hjk
   obtain rfl : o = oj := Option.some.inj (h0.symm.trans hj)
   exact ⟨E, hE, h.1⟩
  ·refine Xqb ops cl ms rest ((k, o, clOf cl k) :: E) (k + 1) (fun j => by have := hl (j + 1); simpa [Nat.add_assoc, Nat.add_comm 1 j] using this) ?_ h.2 j oj (by omega) hj
   intro i hi
   by_cases hik : i = k
   ·subst hik
    exact ⟨o, h0, List.mem_cons_self⟩
   ·obtain ⟨oi, h1, h2⟩ := hE i (by omega)
    exact ⟨oi, h1, List.mem_cons_of_mem _ h2⟩
theorem Qne {l : List Oper} {cl : List Nat} {ms : List Nat} (h : okT l cl ms = true) : OkayT l.toArray (clOf cl) (wtOf ms) := by
 unfold okT at h
 rw [Bool.and_eq_true] at h
 obtain ⟨h, hml⟩ := h
 have S := Xqb l.toArray cl ms l [] 0 (by simp) (fun i hi => absurd hi (by omega)) h
 have at_ : ∀ j oj, l.toArray[j]? = some oj → ∃ E', (∀ i, i < j → ∃ oi, l.toArray[i]? = some oi ∧ (i, oi, clOf cl i) ∈ E') ∧ Wuc l.toArray cl ms E' j oj = true := fun j oj hj => S j oj (Nat.zero_le _) hj
 refine ⟨?_, ?_, ?_, ?_⟩
 ·intro j o cs b hj heq
  obtain ⟨E', _, hh⟩ := at_ j o hj
  simp [Wuc, Yse, heq] at hh
 ·intro j o i hj hw
  obtain ⟨E', _, hh⟩ := at_ j o hj
  simp only [Wuc, Bool.and_eq_true] at hh
  have hm := Nat.eq_of_beq_eq_true hh.1.2
  unfold wtOf at hw
  rw [hm] at hw
  obtain ⟨e, h1, h2⟩ := Vcb ms i _ hw
  exact ⟨e, Array.mem_toList_iff.1 h1, h2⟩
 ·intro j o e hj he hb
  obtain ⟨E', _, hh⟩ := at_ j o hj
  simp only [Wuc, Bool.and_eq_true, List.all_eq_true, Array.mem_toList_iff, Bool.or_eq_true, Bool.not_eq_true'] at hh
  rcases hh.1.1.2 e he with h1 | h1
  ·rw [hb] at h1; cases h1
  ·exact Nat.le_of_ble_eq_true h1
 ·intro i j oi oj hij hi hj hw
  obtain ⟨E', hE, hh⟩ := at_ j oj hj
  simp only [Wuc, Bool.and_eq_true, List.all_eq_true] at hh
  obtain ⟨oi', h1, h2⟩ := hE i hij
  obtain rfl : oi' = oi := Option.some.inj (h1.symm.trans hi)
  have h3 := hh.2 _ h2
  unfold wtOf at hw
  dsimp only at h3
  rw [hw] at h3
  have e : ∀ (a b : Nat), Nat.beq a b = true ↔ a = b := fun a b => ⟨Nat.eq_of_beq_eq_true, fun h => by subst h; exact Nat.beq_refl a⟩
  have e' : ∀ (a b : Nat), Nat.ble a b = true ↔ a ≤ b := fun a b => ⟨Nat.le_of_ble_eq_true, Nat.ble_eq_true_of_le⟩
  simp only [Bool.false_or, Bool.or_eq_true, Bool.and_eq_true, Bool.not_eq_true', ← Bool.not_eq_true, e, e'] at h3
  rcases h3 with h3 | ⟨ha, h3⟩
  ·exact .inl ⟨h3.1, h3.2⟩
  ·refine .inr ⟨ha, ?_⟩
   rcases h3 with ((h3 | h3) | h3) | h3
   ·exact .inl h3
   ·exact .inr (.inl h3)
   ·exact .inr (.inr (.inl h3))
   ·exact .inr (.inr (.inr h3))
/-! the steps -/
def isRdB (cl : List Nat) (j : Nat) : Bool := Nat.beq (clOf cl j) 0 || Nat.beq (clOf cl j) 3
def availB (ms : List Nat) (L : List Nat) (j : Nat) : Bool := L.all fun i => !(wtOf ms j i)
def candB (cl ms L : List Nat) : List Nat := L.filter fun j => availB ms L j
theorem Uma (ms : List Nat) (L : List Nat) (j : Nat) : availB ms L j = true ↔ Avail (wtOf ms) L j := by
 unfold availB Avail; simp [List.all_eq_true]
theorem Wwe (cl : List Nat) (j : Nat) : isRdB cl j = true ↔ (clOf cl j = 0 ∨ clOf cl j = 3) := by
 unfold isRdB; rw [Bool.or_eq_true]
 exact ⟨fun h => h.imp Nat.eq_of_beq_eq_true Nat.eq_of_beq_eq_true, fun h => h.imp (fun e => by rw [e]; rfl) (fun e => by rw [e]; rfl)⟩
def ST (P : Program) (Z : List PanicEntry → Act → World → Prop) (ops : List Oper) (cl ms : List Nat) (row : RelX) (n : Nat) (K : Act → World → Prop) (m : Nat) (L : List Nat) (σ : List Ent) (w : World) : Prop :=
 ∀ a, Kn n σ a → RT P Z ops.toArray (clOf cl) (wtOf ms) row K m L a w
section
variable {P : Program} {Z : List PanicEntry → Act → World → Prop} {ops : List Oper} {cl ms : List Nat} {row : RelX} {n : Nat} {K : Act → World → Prop} {m : Nat} {L L' : List Nat} {σ : List Ent} {w : World} {d : Nat} {op : Op} {ty : TypeId} {pos : String} {after : Array Edge} {v : Value}
theorem Up (h : ∀ a, Kn n σ a → K a w) : ST P Z ops cl ms row n K 0 [] σ w := fun a ha => ⟨rfl, h a ha⟩
theorem Uq (τ : List Ent) (hs : Sub τ σ) (h : ST P Z ops cl ms row n K m L τ w) : ST P Z ops cl ms row n K m L σ w := fun a ha => h a (ha.sub hs)
theorem Qoe (r : Nat) (hr : ops.toArray[r]? = some ⟨some d, op, ty, pos, after, none⟩) (hb : (L.contains r && availB ms L r && Nat.beq (clOf cl r) 0 && Nat.blt d n) = true) (hL : L.erase r = L')
  (hv : ∀ w1, GX row w w1 → Rd P n σ True w1 op ty v) (h : ST P Z ops cl ms row n K m L' ((d, True, v) :: σ) w) : ST P Z ops cl ms row n K (m + 1) L σ w := fun a ha => by
 simp only [Bool.and_eq_true] at hb
 obtain ⟨⟨⟨h1, h2⟩, h3⟩, h4⟩ := hb
 refine .inl ⟨r, by simpa using h1, (Uma ms L r).1 h2, .inl (Nat.eq_of_beq_eq_true h3), _, hr, v, fun _ w1 hg => ?_, (fun hn => by cases hn), hL ▸ h _ (ha.put h4 (fun _ => J) (fun hn => absurd trivial hn))⟩
 rcases hg with hg | hg
 ·rw [Nat.eq_of_beq_eq_true h3] at hg; cases hg
 ·exact hv w1 hg _ _ _ _ a ha trivial w1 (G.refl _)
theorem Jsa (r : Nat) (hr : ops.toArray[r]? = some ⟨some d, op, ty, pos, after, none⟩) (hb : (L.contains r && availB ms L r && Nat.beq (clOf cl r) 3 && Nat.blt d n) = true) (hL : L.erase r = L')
  (hv : ∀ wb, Rd P n σ True wb op ty v) (h : ST P Z ops cl ms row n K m L' ((d, True, v) :: σ) w) : ST P Z ops cl ms row n K (m + 1) L σ w := fun a ha => by
 simp only [Bool.and_eq_true] at hb
 obtain ⟨⟨⟨h1, h2⟩, h3⟩, h4⟩ := hb
 exact .inl ⟨r, by simpa using h1, (Uma ms L r).1 h2, .inr (Nat.eq_of_beq_eq_true h3), _, hr, v, fun _ w1 hg => hv w1 _ _ _ _ a ha trivial w1 (G.refl _), (fun hn => by cases hn), hL ▸ h _ (ha.put h4 (fun _ => rfl) (fun hn => absurd trivial hn))⟩
open Classical in
theorem Jba {g t : Nat} {want b : Bool} {c0 : Prop} (r : Nat) (hr : ops.toArray[r]? = some ⟨some d, op, ty, pos, after, some (g, want)⟩) (hb : (L.contains r && availB ms L r && Nat.beq (clOf cl r) 0 && Nat.blt d n) = true) (hL : L.erase r = L')
  (hgd : ((ops.toArray[g]?).bind (·.dst)) = some t) (hlk : look σ t = some (c0, .bool b))
  (hv : ∀ w1, GX row w w1 → Rd P n σ (c0 ∧ b = want) w1 op ty v) (h : ST P Z ops cl ms row n K m L' ((d, c0 ∧ b = want, v) :: σ) w) : ST P Z ops cl ms row n K (m + 1) L σ w := fun a ha => by
 simp only [Bool.and_eq_true] at hb
 obtain ⟨⟨⟨h1, h2⟩, h3⟩, h4⟩ := hb
 have hw := Zub (op := op) (ty := ty) (pos := pos) (after := after) (want := want) (d := some d) hgd hlk ha
 refine .inl ⟨r, by simpa using h1, (Uma ms L r).1 h2, .inl (Nat.eq_of_beq_eq_true h3), _, hr, if c0 ∧ b = want then v else undef, fun hwt w1 hg => ?_, fun hn => ?_, hL ▸ h _ (ha.put h4 (fun hh => if_pos hh) (fun hh => if_neg hh))⟩
 ·rcases hg with hg | hg
  ·rw [Nat.eq_of_beq_eq_true h3] at hg; cases hg
  ·rw [if_pos (hw.1 hwt)]
   exact hv w1 hg _ _ _ _ a ha (hw.1 hwt) w1 (G.refl _)
 ·rw [if_neg (fun hh => by rw [hw.2 hh] at hn; cases hn)]
open Classical in
theorem Jm {g t : Nat} {want b : Bool} {c0 : Prop} (r : Nat) (hr : ops.toArray[r]? = some ⟨some d, op, ty, pos, after, some (g, want)⟩) (hb : (L.contains r && availB ms L r && Nat.beq (clOf cl r) 3 && Nat.blt d n) = true) (hL : L.erase r = L')
  (hgd : ((ops.toArray[g]?).bind (·.dst)) = some t) (hlk : look σ t = some (c0, .bool b))
  (hv : ∀ wb, Rd P n σ (c0 ∧ b = want) wb op ty v) (h : ST P Z ops cl ms row n K m L' ((d, c0 ∧ b = want, v) :: σ) w) : ST P Z ops cl ms row n K (m + 1) L σ w := fun a ha => by
 simp only [Bool.and_eq_true] at hb
 obtain ⟨⟨⟨h1, h2⟩, h3⟩, h4⟩ := hb
 have hw := Zub (op := op) (ty := ty) (pos := pos) (after := after) (want := want) (d := some d) hgd hlk ha
 refine .inl ⟨r, by simpa using h1, (Uma ms L r).1 h2, .inr (Nat.eq_of_beq_eq_true h3), _, hr, if c0 ∧ b = want then v else undef, fun hwt w1 hg => ?_, fun hn => ?_, hL ▸ h _ (ha.put h4 (fun hh => if_pos hh) (fun hh => if_neg hh))⟩
 ·rw [if_pos (hw.1 hwt)]
  exact hv w1 _ _ _ _ a ha (hw.1 hwt) w1 (G.refl _)
 ·rw [if_neg (fun hh => by rw [hw.2 hh] at hn; cases hn)]
def STE (P : Program) (Z : List PanicEntry → Act → World → Prop) (ops : List Oper) (cl ms : List Nat) (row : RelX) (n : Nat) (K : Act → World → Prop) (m : Nat) (L : List Nat) (σ : List Ent) (w : World) (j : Nat) : Prop :=
 ∀ a, Kn n σ a → ∃ o, ops.toArray[j]? = some o ∧ if Region.wanted o (yielded ops.toArray a.tmps) = true then EffQ P Z row (clOf cl j == 1) o a w (fun a' w' => RT P Z ops.toArray (clOf cl) (wtOf ms) row K m (L.erase j) a' w')
  else RT P Z ops.toArray (clOf cl) (wtOf ms) row K m (L.erase j) (a.put o.dst undef) w
theorem Qpe (cs : List Nat) (hb : L.all (fun r => !(availB ms L r && isRdB cl r)) = true) (hc : candB cl ms L = cs) (h : ∀ j ∈ cs, STE P Z ops cl ms row n K m L σ w j) : ST P Z ops cl ms row n K (m + 1) L σ w := fun a ha => by
 refine .inr ⟨fun r hr hav hrd => ?_, fun j hj hav => ?_⟩
 ·have := List.all_eq_true.1 hb r hr
  rw [(Uma ms L r).2 hav, (Wwe cl r).2 hrd] at this; cases this
 ·exact h j (by rw [← hc]; exact List.mem_filter.2 ⟨hj, (Uma ms L j).2 hav⟩) a ha
theorem Xo (j : Nat) (hb : L.all (fun r => !(availB ms L r && isRdB cl r)) = true) (hc : candB cl ms L = [j]) (h : STE P Z ops cl ms row n K m L σ w j) : ST P Z ops cl ms row n K (m + 1) L σ w :=
 Qpe [j] hb hc fun i hi => by rw [List.mem_singleton.1 hi]; exact h
theorem Xwa (j k : Nat) (hb : L.all (fun r => !(availB ms L r && isRdB cl r)) = true) (hc : candB cl ms L = [j, k]) (h : STE P Z ops cl ms row n K m L σ w j) (h' : STE P Z ops cl ms row n K m L σ w k) : ST P Z ops cl ms row n K (m + 1) L σ w :=
 Qpe [j, k] hb hc fun i hi => by
  rcases List.mem_cons.1 hi with rfl | hi
  ·exact h
  ·rw [List.mem_singleton.1 hi]; exact h'
theorem Xg {j : Nat} {o : Oper} (cl2 : List Nat) (ho : ops.toArray[j]? = some o) (hL : L.erase j = L') (hc : (Nat.beq (clOf cl2 j) 0 || Nat.beq (clOf cl2 j) 3) = false)
  (h : SR P Z ops cl2 [] w n (fun a' w' => GX row w w' ∧ RT P Z ops.toArray (clOf cl) (wtOf ms) row K m L' a' w') j [o] σ w) : STE P Z ops cl ms row n K m L σ w j := fun a ha => by
 subst hL
 have h1 := h (fun i o' h => by cases i with
  | zero => injection h with h; subst h; exact ho
  | succ i => cases h) a ha
 ·have hc' : ¬ (clOf cl2 j = 0 ∨ clOf cl2 j = 3) := by
   intro e; rw [Bool.or_eq_false_iff] at hc
   rcases e with e | e <;> rw [e] at hc <;> simp at hc
  obtain ⟨o', ho', h2⟩ := h1
  obtain rfl : o' = o := Option.some.inj (ho'.symm.trans ho)
  rw [if_neg hc'] at h2
  refine ⟨o', ho, ?_⟩
  by_cases hw : Region.wanted o' (yielded ops.toArray a.tmps) = true
  ·rw [if_pos hw] at h2 ⊢
   rcases h2 with ⟨v, w', hr, _, hn⟩ | ⟨w', hr, _, hn⟩ | ⟨f, args, hr, hcl⟩ | ⟨l, f, tmps, asg, body, hr, hcl⟩
   ·exact .inl ⟨v, w', hr, fun _ => hn.1, hn.2⟩
   ·exact .inr (.inl ⟨w', hr, fun _ => hn.1, hn.2⟩)
   ·refine .inr (.inr (.inl ⟨f, args, hr, Calls.mono hcl fun e w' h => ?_⟩))
    rcases h with ⟨v, he, _, hn⟩ | h
    ·exact .inl ⟨v, he, fun _ => hn.1, hn.2⟩
    ·exact .inr h
   ·exact .inr (.inr (.inr ⟨l, f, tmps, asg, body, hr, RoundIn.mono hcl fun e w' ⟨v, he, _, hn⟩ => ⟨v, he, fun _ => hn.1, hn.2⟩⟩))
  ·rw [if_neg hw] at h2 ⊢
   exact h2.2
theorem Wt {j : Nat} {o : Oper} (cl2 : List Nat) (ho : ops.toArray[j]? = some o) (hL : L.erase j = L') (hc : (Nat.beq (clOf cl2 j) 0 || Nat.beq (clOf cl2 j) 3) = false) (h1c : Nat.beq (clOf cl j) 1 = false)
  (h : SR P Z ops cl2 [] w n (fun a' w' => RT P Z ops.toArray (clOf cl) (wtOf ms) row K m L' a' w') j [o] σ w) : STE P Z ops cl ms row n K m L σ w j := fun a ha => by
 subst hL
 have h1 := h (fun i o' h => by cases i with
  | zero => injection h with h; subst h; exact ho
  | succ i => cases h) a ha
 have hc' : ¬ (clOf cl2 j = 0 ∨ clOf cl2 j = 3) := by
  intro e; rw [Bool.or_eq_false_iff] at hc
  rcases e with e | e <;> rw [e] at hc <;> simp at hc
 have h1c' : (clOf cl j == 1) = false := by
  cases h : (clOf cl j == 1) with
  | false => rfl
  | true => rw [eq_of_beq h] at h1c; cases h1c
 obtain ⟨o', ho', h2⟩ := h1
 obtain rfl : o' = o := Option.some.inj (ho'.symm.trans ho)
 rw [if_neg hc'] at h2
 refine ⟨o', ho, ?_⟩
 rw [h1c']
 by_cases hw : Region.wanted o' (yielded ops.toArray a.tmps) = true
 ·rw [if_pos hw] at h2 ⊢
  rcases h2 with ⟨v, w', hr, _, hn⟩ | ⟨w', hr, _, hn⟩ | ⟨f, args, hr, hcl⟩ | ⟨l, f, tmps, asg, body, hr, hcl⟩
  ·exact .inl ⟨v, w', hr, (fun h => by cases h), hn⟩
  ·exact .inr (.inl ⟨w', hr, (fun h => by cases h), hn⟩)
  ·refine .inr (.inr (.inl ⟨f, args, hr, Calls.mono hcl fun e w' h => ?_⟩))
   rcases h with ⟨v, he, _, hn⟩ | h
   ·exact .inl ⟨v, he, (fun h => by cases h), hn⟩
   ·exact .inr h
  ·exact .inr (.inr (.inr ⟨l, f, tmps, asg, body, hr, RoundIn.mono hcl fun e w' ⟨v, he, _, hn⟩ => ⟨v, he, (fun h => by cases h), hn⟩⟩))
 ·rw [if_neg hw] at h2 ⊢
  exact h2
theorem Vm {cl2 : List Nat} {W0 : World} {k : Nat} (h : ST P Z ops cl ms row n K m L σ w) : SR P Z ops cl2 [] W0 n (fun a' w' => RT P Z ops.toArray (clOf cl) (wtOf ms) row K m L a' w') k [] σ w := Zb h
theorem Wa {cl2 : List Nat} {W0 w0 : World} {k : Nat} (hg : GX row w0 w) (h : ST P Z ops cl ms row n K m L σ w) : SR P Z ops cl2 [] W0 n (fun a' w' => GX row w0 w' ∧ RT P Z ops.toArray (clOf cl) (wtOf ms) row K m L a' w') k [] σ w := Zb fun a ha => ⟨hg, h a ha⟩
end
section
variable {P : Program} {n : Nat} {N T : Act → World → Prop} {X : List (Nat × (Act → World → Prop))} {σ : List Ent} {w : World}
theorem Ud {id : Nat} {l : List Oper} (row : RelX) (cl : List Nat) (ms : List Nat) (hm : P.follows .mixedOrders = true) (hok : okT l cl ms = true) (L : List Nat) (hL : List.range l.length = L)
  (h : ST P NoP l cl ms row n N l.length L σ w.drew) : SC P n (.region id l.toArray true) N X T σ w := fun a ha => by
 have h1 := h a ha
 subst hL
 have h2 : RT P NoP l.toArray (clOf cl) (wtOf ms) row (fun a w => (Qof N X T) .normal a w) l.toArray.size (List.range l.toArray.size) a w.drew := by simpa [Qof] using h1
 exact Qme (Qne hok) hm h2
end
section
variable {P : Program} {n : Nat} {σ : List Ent} {c : Prop} {wb : World} {ty : TypeId} {v : Value}
end
section
variable {P : Program} {Z : List PanicEntry → Act → World → Prop} {ops : List Oper} {cl : List Nat} {lv : List Bool} {W0 : World} {n : Nat} {K : Act → World → Prop} {k : Nat} {rest : List Oper} {σ : List Ent} {w : World} {d : Nat} {ty : TypeId} {pos : String} {after : Array Edge}
theorem Xrb {g t : Nat} {want b : Bool} {c0 : Prop} {op : Op} {f : FuncId} {args : Array Value} {R : Value → World → Prop} (hb : (!Nat.beq (clOf cl k) 0 && !Nat.beq (clOf cl k) 3 && Nat.blt d n) = true)
  (hgd : ((ops.toArray[g]?).bind (·.dst)) = some t) (hlk : look σ t = some (c0, .bool b)) (hr : c0 ∧ b = want → RunC P n σ (c0 ∧ b = want) w op ty f args) (hC : c0 ∧ b = want → Ret P f args w fun v w' => R v w' ∧ G w w')
  (h : ∀ v w', (c0 ∧ b = want → R v w') → G w w' → SR P Z ops cl lv W0 n K (k + 1) rest ((d, c0 ∧ b = want, v) :: σ) w') :
  SR P Z ops cl lv W0 n K k (⟨some d, op, ty, pos, after, some (g, want)⟩ :: rest) σ w :=
 Qhe hb hgd hlk hr hC (fun v w' _ hv => ⟨fun _ => hv.2, h v w' (fun _ => hv.1) hv.2⟩) (fun hn => h undef w (fun hc => absurd hc hn) (G.refl w))
end
def opv (σ : List Ent) : Operand → Option (Prop × Value)
 | .tmp t => look σ t
 | .const v => some (True, v)
 | .global g => some (True, .pointer (some ⟨g, 0, none⟩))
 | .func f => some (True, .func (.func f) #[] #[])
section
variable {n : Nat} {σ : List Ent} {c : Prop} {v : Value}
theorem Xea {x : Operand} (h : opv σ x = some (True, v)) : Ev n σ c x v := by
 cases x with
 | tmp t => exact Zk h
 | const u => injection h with h; injection h with _ h; subst h; exact Xy
 | global g => injection h with h; injection h with _ h; subst h; exact ev_g
 | func f => injection h with h; injection h with _ h; subst h; exact Yo
theorem aq0 : Zvb n σ c [] [] := Xw
theorem aqc {x : Operand} {u : Value} {xs : List Operand} {vs : List Value} (h : opv σ x = some (True, u)) (k : Zvb n σ c xs vs) : Zvb n σ c (x :: xs) (u :: vs) := Xf (Xea h) k
theorem pq0 : Via n σ c #[] [] := Qk
theorem pqc {i : Nat} {x : Operand} {u : Value} {ps : List (Nat × Operand)} {vs : List (Nat × Value)} (h : opv σ x = some (True, u)) (k : Via n σ c ps.toArray vs) : Via n σ c ((i, x) :: ps).toArray ((i, u) :: vs) := Wk (Xea h) k
end
section
variable {P : Program} {Z : List PanicEntry → Act → World → Prop} {ops : List Oper} {cl : List Nat} {lv : List Bool} {W0 : World} {n : Nat} {K : Act → World → Prop} {k : Nat} {rest : List Oper} {σ : List Ent} {w : World} {d : Nat} {op : Op} {ty : TypeId} {pos : String} {after : Array Edge} {v : Value} {x y : Operand}
section
theorem Zt (hx : opv σ x = some (True, v)) (h : SR P Z ops cl lv W0 n K (k + 1) rest ((d, True, v) :: σ) w) (hb : (Nat.beq (clOf cl k) 3 && Nat.blt d n) = true := by exact rfl) : SR P Z ops cl lv W0 n K k (⟨some d, .move x, ty, pos, after, none⟩ :: rest) σ w := Yi hb (fun _ => Yl (Xea hx)) h
theorem Zp (hx : opv σ x = some (True, v)) (h : SR P Z ops cl lv W0 n K (k + 1) rest ((d, True, v) :: σ) w) (hb : (Nat.beq (clOf cl k) 3 && Nat.blt d n) = true := by exact rfl) : SR P Z ops cl lv W0 n K k (⟨some d, .assign x, ty, pos, after, none⟩ :: rest) σ w := Yi hb (fun _ => Wy (Xea hx)) h
theorem Ui {a : Addr} (hx : opv σ x = some (True, .pointer (some a))) (h : SR P Z ops cl lv W0 n K (k + 1) rest ((d, True, .pointer (some a)) :: σ) w) (hb : (Nat.beq (clOf cl k) 3 && Nat.blt d n) = true := by exact rfl) : SR P Z ops cl lv W0 n K k (⟨some d, .nilCheck x, ty, pos, after, none⟩ :: rest) σ w := Yi hb (fun _ => Jl (Xea hx)) h
theorem Zx {s j off b o : Nat} (hf : Vl P s j = some off) (hx : opv σ x = some (True, .pointer (some ⟨b, o, none⟩))) (h : SR P Z ops cl lv W0 n K (k + 1) rest ((d, True, .pointer (some ⟨b, o + off, none⟩)) :: σ) w) (hb : (Nat.beq (clOf cl k) 3 && Nat.blt d n) = true := by exact rfl) : SR P Z ops cl lv W0 n K k (⟨some d, .fieldAddr s x j, ty, pos, after, none⟩ :: rest) σ w := Yi hb (fun _ => Zv hf (Xea hx)) h
theorem Wia {t : TypeId} {i : Bool} (hx : opv σ x = some (True, .bool i)) (h : SR P Z ops cl lv W0 n K (k + 1) rest ((d, True, .bool (!i)) :: σ) w) (hb : (Nat.beq (clOf cl k) 3 && Nat.blt d n) = true := by exact rfl) : SR P Z ops cl lv W0 n K k (⟨some d, .unOp .not t x, ty, pos, after, none⟩ :: rest) σ w := Yi hb (fun _ => Xqa (Xea hx)) h
theorem Xt {t u : TypeId} {q : IntKind} {i j : Int} (hx : opv σ x = some (True, .int q i)) (hy : opv σ y = some (True, .int q j)) (h : SR P Z ops cl lv W0 n K (k + 1) rest ((d, True, .bool (decide (i = j))) :: σ) w) (hb : (Nat.beq (clOf cl k) 3 && Nat.blt d n) = true := by exact rfl) : SR P Z ops cl lv W0 n K k (⟨some d, .binOp .eql t x y u, ty, pos, after, none⟩ :: rest) σ w := Yi hb (fun _ => Vt (Xea hx) (Xea hy)) h
theorem Wja {t u : TypeId} {q : IntKind} {i j : Int} (hx : opv σ x = some (True, .int q i)) (hy : opv σ y = some (True, .int q j)) (h : SR P Z ops cl lv W0 n K (k + 1) rest ((d, True, .bool (!decide (i = j))) :: σ) w) (hb : (Nat.beq (clOf cl k) 3 && Nat.blt d n) = true := by exact rfl) : SR P Z ops cl lv W0 n K k (⟨some d, .binOp .neq t x y u, ty, pos, after, none⟩ :: rest) σ w := Yi hb (fun _ => Wba (Xea hx) (Xea hy)) h
theorem Zfa {t u : TypeId} {q : IntKind} {i j : Int} (hx : opv σ x = some (True, .int q i)) (hy : opv σ y = some (True, .int q j)) (h : SR P Z ops cl lv W0 n K (k + 1) rest ((d, True, .bool (decide (i < j))) :: σ) w) (hb : (Nat.beq (clOf cl k) 3 && Nat.blt d n) = true := by exact rfl) : SR P Z ops cl lv W0 n K k (⟨some d, .binOp .lss t x y u, ty, pos, after, none⟩ :: rest) σ w := Yi hb (fun _ => Ujf (Xea hx) (Xea hy)) h
theorem Ved {t u : TypeId} {q : IntKind} {i j : Int} (hx : opv σ x = some (True, .int q i)) (hy : opv σ y = some (True, .int q j)) (h : SR P Z ops cl lv W0 n K (k + 1) rest ((d, True, .bool (decide (j < i))) :: σ) w) (hb : (Nat.beq (clOf cl k) 3 && Nat.blt d n) = true := by exact rfl) : SR P Z ops cl lv W0 n K k (⟨some d, .binOp .gtr t x y u, ty, pos, after, none⟩ :: rest) σ w := Yi hb (fun _ => Yue (Xea hx) (Xea hy)) h
theorem Xsb {t u : TypeId} {q : IntKind} {i j : Int} (hx : opv σ x = some (True, .int q i)) (hy : opv σ y = some (True, .int q j)) (h : SR P Z ops cl lv W0 n K (k + 1) rest ((d, True, .bool (decide (j ≤ i))) :: σ) w) (hb : (Nat.beq (clOf cl k) 3 && Nat.blt d n) = true := by exact rfl) : SR P Z ops cl lv W0 n K k (⟨some d, .binOp .geq t x y u, ty, pos, after, none⟩ :: rest) σ w := Yi hb (fun _ => Ugb (Xea hx) (Xea hy)) h
theorem Wi {t u : TypeId} {i j : List UInt8} (hx : opv σ x = some (True, Str i)) (hy : opv σ y = some (True, Str j)) (h : SR P Z ops cl lv W0 n K (k + 1) rest ((d, True, .bool (decide (i = j))) :: σ) w) (hb : (Nat.beq (clOf cl k) 3 && Nat.blt d n) = true := by exact rfl) : SR P Z ops cl lv W0 n K k (⟨some d, .binOp .eql t x y u, ty, pos, after, none⟩ :: rest) σ w := Yi hb (fun _ => Yya (Xea hx) (Xea hy)) h
theorem Qc {i : Nat} {vs : Array Value} (hx : opv σ x = some (True, .tuple vs)) (hv : vs[i]? = some v) (h : SR P Z ops cl lv W0 n K (k + 1) rest ((d, True, v) :: σ) w) (hb : (Nat.beq (clOf cl k) 3 && Nat.blt d n) = true := by exact rfl) : SR P Z ops cl lv W0 n K k (⟨some d, .extract x i, ty, pos, after, none⟩ :: rest) σ w := Yi hb (fun _ => Vf (Xea hx) hv) h
end
theorem Yg {t b o : Nat} (ht : tyOne P t = true) (hx : opv σ x = some (True, .pointer (some ⟨b, o, none⟩))) (hc : w.cell? ⟨b, o, none⟩ = some v) (h : SR P Z ops cl lv W0 n K (k + 1) rest ((d, True, v) :: σ) w) (hb : (Nat.beq (clOf cl k) 0 && lvOf lv k && Nat.blt d n) = true := by exact rfl) : SR P Z ops cl lv W0 n K k (⟨some d, .load t x, ty, pos, after, none⟩ :: rest) σ w := Qkb hb (Ye ht (Xea hx) (fun _ => hc)) h
theorem Yk {t b o z : Nat} {l : List Value} (ht : Ywb P t = some z) (hx : opv σ x = some (True, .pointer (some ⟨b, o, none⟩))) (hl : l.length = z) (hc : RowAt w b o l) (h : SR P Z ops cl lv W0 n K (k + 1) rest ((d, True, .agg l.toArray) :: σ) w) (hb : (Nat.beq (clOf cl k) 0 && lvOf lv k && Nat.blt d n) = true := by exact rfl) : SR P Z ops cl lv W0 n K k (⟨some d, .load t x, ty, pos, after, none⟩ :: rest) σ w := Qkb hb (Xd ht (Xea hx) hl (fun _ => hc)) h
end
section
variable {P : Program} {n : Nat} {N T : Act → World → Prop} {X : List (Nat × (Act → World → Prop))} {σ : List Ent} {w : World}
theorem Yv {x : Operand} {b : Bool} {p q : Code} (hx : opv σ x = some (True, .bool b)) (h1 : b = true → SC P n p N X T σ w) (h2 : b = false → SC P n q N X T σ w) : SC P n (.cond x p q) N X T σ w := Xzc (Xea hx) h1 h2
end
def KQ (P : Program) (n : Nat) (y : Code) (N : Act → World → Prop) (X : List (Nat × (Act → World → Prop))) (T : Act → World → Prop) (a : Act) (u : World) : Prop := ∃ τ, Kn n τ a ∧ SC P n y N X T τ u
section
variable {P : Program} {n : Nat} {N T : Act → World → Prop} {X : List (Nat × (Act → World → Prop))} {σ : List Ent} {w : World}
theorem kq {y : Code} (h : SC P n y N X T σ w) : ∀ a, Kn n σ a → KQ P n y N X T a w := fun a ha => ⟨σ, ha, h⟩
theorem Ze {x y : Code} (h : SC P n x (KQ P n y N X T) X T σ w) : SC P n (.seq x y) N X T σ w := fun a ha => by
 refine wp_seq (Code.wp_mono (fun e a w q => ?_) (h a ha))
 cases e with
 | normal => obtain ⟨τ, hk, hs⟩ := q; exact hs a hk
 | _ => exact q
end
theorem Zw {a w w' : World} {j : Nat} (h : G a w) (hg : w.grownBy w' (some j)) (hj : a.heap.size ≤ j) : G a w' := Wqc h hg fun k hk => by injection hk with hk; omega
theorem nw1 {p : Prop} (h : (2 : Nat) = 1) : p := absurd h (by decide)
def clD (o : Oper) : Nat := match o.op with
 | .load .. => 0
 | .move .. | .assign .. | .pick .. | .nilCheck .. | .binOp .. | .unOp .. | .makeInterface .. | .makeFunc .. | .slice .. | .fieldAddr .. | .field .. | .indexAddr .. | .index .. | .extract .. | .build .. => 3
 | .call c => match c.callee with
  | .builtin .len => 3
  | _ => 2
 | _ => 2
theorem Zg {P : Program} {n : Nat} {N T : Act → World → Prop} {X : List (Nat × (Act → World → Prop))} {σ : List Ent} {w : World} {id : Nat} {l : List Oper} (h : SR P NoP l (l.map clD) [] w n N 0 l σ w) : SC P n (.region id l.toArray false) N X T σ w := Wma _ h
section
variable {P : Program} {Z : List PanicEntry → Act → World → Prop} {ops : List Oper} {cl ms : List Nat} {row : RelX} {n : Nat} {K : Act → World → Prop} {m : Nat} {L : List Nat} {σ : List Ent} {w : World} {d : Nat} {op : Op} {ty : TypeId} {pos : String} {after : Array Edge} {v : Value}
theorem Vk (r : Nat) (hr : ops.toArray[r]? = some ⟨some d, op, ty, pos, after, none⟩) (hb : (L.contains r && availB ms L r && Nat.beq (clOf cl r) 0 && Nat.blt d n) = true)
  (hv : ∀ w1, GX row w w1 → Rd P n σ True w1 op ty v) (h : ST P Z ops cl ms row n K m (L.erase r) ((d, True, v) :: σ) w) : ST P Z ops cl ms row n K (m + 1) L σ w := Qoe r hr hb rfl hv h
theorem Xc (r : Nat) (hr : ops.toArray[r]? = some ⟨some d, op, ty, pos, after, none⟩) (hb : (L.contains r && availB ms L r && Nat.beq (clOf cl r) 3 && Nat.blt d n) = true)
  (hv : ∀ wb, Rd P n σ True wb op ty v) (h : ST P Z ops cl ms row n K m (L.erase r) ((d, True, v) :: σ) w) : ST P Z ops cl ms row n K (m + 1) L σ w := Jsa r hr hb rfl hv h
end
theorem gdr {a w : World} (g : G a w) : G a w.drew := g.trans (G.drew _)
theorem knr {n : Nat} {σ : List Ent} {w : World} : ∀ a, Kn n σ a → Kn n σ a ∧ w = w := fun _ h => ⟨h, rfl⟩
section
variable {P : Program} {Z : List PanicEntry → Act → World → Prop} {ops : List Oper} {cl : List Nat} {lv : List Bool} {W0 : World} {n : Nat} {K : Act → World → Prop} {k : Nat} {rest : List Oper} {σ : List Ent} {w : World} {d : Nat} {ty : TypeId} {pos : String} {after : Array Edge} {t : TypeId} {x y : Operand} {b o z : Nat} {e : TypeId} {u v : Value} {l vs : List Value}
theorem Vz (hs : tySize P t = some 1) (hx : opv σ x = some (True, .pointer (some ⟨b, o, none⟩))) (hy : opv σ y = some (True, u)) (hu : u.cells = #[v]) (hB : Blk w b e l)
  (h : ∀ w1, w.grownBy w1 (some b) → w1.heap.size = w.heap.size → Blk w1 b e (l.set o v) → SR P Z ops cl lv W0 n K (k + 1) rest σ w1) (hb : Nat.beq (clOf cl k) 2 = true := by exact rfl) (hfit : Nat.blt o l.length = true := by exact rfl) (h1 : v.oneCell' = true := by exact rfl) :
  SR P Z ops cl lv W0 n K k (⟨none, .store t x y, ty, pos, after, none⟩ :: rest) σ w := Zwb hb hs (Xea hx) (Xea hy) hu hB hfit h1 h
theorem Yt (hs : tySize P t = some z) (hx : opv σ x = some (True, .pointer (some ⟨b, 0, none⟩))) (hy : opv σ y = some (True, u)) (hu : u.cells = vs.toArray) (hB : Blk w b e l)
  (h : ∀ w1, w.grownBy w1 (some b) → w1.heap.size = w.heap.size → Blk w1 b e vs → SR P Z ops cl lv W0 n K (k + 1) rest σ w1) (hb : Nat.beq (clOf cl k) 2 = true := by exact rfl) (hz : vs.length = z := by exact rfl) (hfit : Nat.beq vs.length l.length = true := by exact rfl) (h1 : onesB vs = true := by exact rfl) :
  SR P Z ops cl lv W0 n K k (⟨none, .store t x y, ty, pos, after, none⟩ :: rest) σ w := Yfa hb hs (Xea hx) (Xea hy) hu hz hB hfit h1 h
theorem Uc {ps : Array (Nat × Operand)} {vs : List (Nat × Value)} {pl : List (Nat × Nat)} {z : Value} {zl l : List Value} (hz : zeroOf P t = some z) (hp : Je P t = some pl) (hx : Via n σ True ps vs) (hzl : z.cells = zl.toArray)
  (hl : Ycc (fun i => pl[i]?) zl vs = some l) (h : SR P Z ops cl lv W0 n K (k + 1) rest ((d, True, .agg l.toArray) :: σ) w) (hb : (Nat.beq (clOf cl k) 3 && Nat.blt d n) = true := by exact rfl) :
  SR P Z ops cl lv W0 n K k (⟨some d, .build t ps, ty, pos, after, none⟩ :: rest) σ w := Yi hb (fun _ => Js l hz hzl hp hx hl) h
theorem Qu {t e z by_ : Nat} {x : Operand} {b : Option Addr} {m q : Nat} (ht : tyElem P t = some (e, z, by_)) (hx : opv σ x = some (True, .slice b m q)) (h : SR P Z ops cl lv W0 n K (k + 1) rest ((d, True, .int .i64 m) :: σ) w) (hb : (Nat.beq (clOf cl k) 3 && Nat.blt d n) = true := by exact rfl) :
  SR P Z ops cl lv W0 n K k (⟨some d, .call { callee := .builtin .len, args := #[x], argTypes := #[t] }, ty, pos, after, none⟩ :: rest) σ w := Yi hb (fun _ => Zea ht (Xea hx)) h
theorem Jta {t e z by_ : Nat} {b o m q : Nat} {g : IntKind} {i : Int} (ht : tyElem P t = some (e, z, by_)) (hx : opv σ x = some (True, .slice (some ⟨b, o, none⟩) m q)) (hy : opv σ y = some (True, .int g i)) (hi : 0 ≤ i ∧ i < m)
  (h : SR P Z ops cl lv W0 n K (k + 1) rest ((d, True, .pointer (some ⟨b, o + i.toNat * z, none⟩)) :: σ) w) (hb : (Nat.beq (clOf cl k) 3 && Nat.blt d n) = true := by exact rfl) : SR P Z ops cl lv W0 n K k (⟨some d, .indexAddr t x y, ty, pos, after, none⟩ :: rest) σ w := Yi hb (fun _ => Jwb ht (Xea hx) (Xea hy) fun _ => hi) h
theorem Qv {t u : TypeId} {i j : Int} (hx : opv σ x = some (True, .int .i64 i)) (hy : opv σ y = some (True, .int .i64 j)) (hr : -9223372036854775808 ≤ i + j ∧ i + j ≤ 9223372036854775807)
  (h : SR P Z ops cl lv W0 n K (k + 1) rest ((d, True, .int .i64 (i + j)) :: σ) w) (hb : (Nat.beq (clOf cl k) 3 && Nat.blt d n) = true := by exact rfl) : SR P Z ops cl lv W0 n K k (⟨some d, .binOp .add t x y u, ty, pos, after, none⟩ :: rest) σ w := Yi hb (fun _ => Ygd (Xea hx) (Xea hy) fun _ => hr) h
end
theorem Xm {a w w1 : World} {b : Nat} {e : TypeId} {l : List Value} (h : New w w1 b e l) (g : a.heap.size ≤ w.heap.size) : a.heap.size ≤ b := by have := h.at_; omega
/-! own blocks -/
def AllOb (w : World) : List (Nat × TypeId × List Value) → Prop
 | [] => True
 | (b, e, l) :: L => Blk w b e l ∧ AllOb w L
def Obk (w : World) (L : List (Nat × TypeId × List Value)) : Prop := (L.map Prod.fst).Nodup ∧ AllOb w L
section
variable {w w' : World} {L : List (Nat × TypeId × List Value)} {b : Nat} {e : TypeId} {l l' : List Value} {x0 x1 x2 x3 x4 x5 x6 x7 x8 x9 x10 x11 : Nat × TypeId × List Value}
theorem Wo (w : World) : Obk w [] := ⟨List.nodup_nil, trivial⟩
theorem Jtc : ∀ {L : List (Nat × TypeId × List Value)} {i : Nat}, AllOb w L → L[i]? = some (b, e, l) → Blk w b e l
 | [], i, _, h => by simp at h
 | (b', e', l') :: L, 0, hA, h => by injection h with h; injection h with h1 h2; injection h2 with h2 h3; subst h1 h2 h3; exact hA.1
 | (b', e', l') :: L, i + 1, hA, h => Jtc (L := L) (i := i) hA.2 h
theorem Obk.g (E : Obk w L) (i : Nat) (h : L[i]? = some (b, e, l)) : Blk w b e l := Jtc E.2 h
theorem Una {w w' : World} : ∀ {L : List (Nat × TypeId × List Value)}, AllOb w L → (∀ b e l, (b, e, l) ∈ L → Blk w b e l → Blk w' b e l) → AllOb w' L
 | [], _, _ => trivial
 | (b, e, l) :: L, h, f => ⟨f b e l List.mem_cons_self h.1, Una h.2 fun b e l hm hB => f b e l (List.mem_cons_of_mem _ hm) hB⟩
theorem Obk.grow (E : Obk w L) (g : G w w') : Obk w' L := ⟨E.1, Una E.2 fun _ _ _ _ h => h.grow g⟩
theorem Obk.dr (E : Obk w L) : Obk w.drew L := E.grow (G.drew _)
theorem Wvc {w : World} : ∀ {L : List (Nat × TypeId × List Value)}, AllOb w L → ∀ b ∈ L.map Prod.fst, b < w.heap.size
 | [], _, b, hm => by cases hm
 | (b', e, l) :: L, h, b, hm => by
  rcases List.mem_cons.1 hm with q | q
  ·subst q; exact h.1.lt
  ·exact Wvc h.2 b q
theorem Obk.ltm (E : Obk w L) {X : List Nat} (h : ∀ j ∈ X, j ∈ L.map Prod.fst) : ∀ j ∈ X, j < w.heap.size := fun j hj => Wvc E.2 j (h j hj)
theorem Obk.new (E : Obk w L) (N : New w w' b e l) : Obk w' ((b, e, l) :: L) := by
 refine ⟨List.nodup_cons.2 ⟨fun hm => ?_, E.1⟩, N.blk, (E.grow N.g).2⟩
 have := Wvc E.2 b hm
 have := N.at_
 omega
theorem Obk.keep (E : Obk w L) {row : Option Nat} (hg : w.grownBy w' row) (h : ∀ b ∈ L.map Prod.fst, some b ≠ row) : Obk w' L :=
 ⟨E.1, Una E.2 fun b e l hm hB => hB.keep hg (h b (List.mem_map_of_mem (f := Prod.fst) hm))⟩
theorem Obk.keepX (E : Obk w L) {row : Option Nat} {X : List Nat} (hg : w.grownBy w' row) (hn : ∀ {b}, b ∈ X → some b ≠ row) (h : ∀ j ∈ L.map Prod.fst, j ∈ X) : Obk w' L := E.keep hg fun b hb => hn (h b hb)
theorem Xtf {w : World} {b b' : Nat} {e e' : TypeId} {l l' : List Value} (h : Blk w b e l) (h' : Blk w b' e' l') (he : Nat.beq e e' = false) : b ≠ b' := fun q => by
 subst q
 unfold Blk at h h'
 rw [h] at h'; injection h' with h'; injection h' with _ h'; subst h'; simp at he
theorem Obk.keepT (E : Obk w L) {j : Nat} {e' : TypeId} {xs : List Value} (hg : w.grownBy w' (some j)) (hB : Blk w j e' xs) (ht : (L.all fun x => !Nat.beq x.2.1 e') = true) : Obk w' L :=
 ⟨E.1, Una E.2 fun b e l hm h => h.keep hg fun q => by
  injection q with q
  have := List.all_eq_true.1 ht _ hm
  exact Xtf h hB (by simpa using this) q⟩
theorem Obk.keepN (E : Obk w L) {base z m : Nat} {e' : TypeId} {v : Value} {xs : List Value} (hO : w.ownsRow base e' z v m xs) (hg : w.grownBy w' v.ownBlock) (ht : (L.all fun x => !Nat.beq e' x.2.1) = true) : Obk w' L :=
 ⟨E.1, Una E.2 fun b e l hm h => h.keep hg fun q => by
  have hne := List.all_eq_true.1 ht _ hm
  rcases hO.2 with ⟨h1, _⟩ | ⟨g, cap, cur, h1, h2, h3, _⟩
  ·rw [h1] at q; cases q
  ·rw [h1] at q
   have : b = g := by injection q
   subst this
   unfold Blk at h
   rw [h] at h3; injection h3 with h3; injection h3 with _ h3; subst h3; simp at hne⟩
theorem Juc {w w' : World} {j : Nat} (hg : w.grownBy w' (some j)) : ∀ {L : List (Nat × TypeId × List Value)}, j ∉ L.map Prod.fst → AllOb w L → AllOb w' L
 | [], _, _ => trivial
 | (b, e, l) :: L, hn, h => ⟨h.1.keep hg fun q => by injection q with q; subst q; exact hn List.mem_cons_self, Juc hg (fun q => hn (List.mem_cons_of_mem _ q)) h.2⟩
theorem Obk.tl {x : Nat × TypeId × List Value} (E : Obk w (x :: L)) : Obk w L := ⟨(List.nodup_cons.1 E.1).2, E.2.2⟩
theorem Obk.hd (E : Obk w ((b, e, l) :: L)) : b ∉ L.map Prod.fst := (List.nodup_cons.1 E.1).1
theorem Obk.s0 (E : Obk w ((b, e, l) :: L)) (hg : w.grownBy w' (some b)) (hB : Blk w' b e l') : Obk w' ((b, e, l') :: L) := ⟨E.1, hB, Juc hg E.hd E.2.2⟩
theorem Obk.up {x : Nat × TypeId × List Value} (E : Obk w (x :: L)) (hg : w.grownBy w' (some b)) (hm : b ∈ L.map Prod.fst) {L' : List (Nat × TypeId × List Value)} (h : Obk w' L') (hL : L'.map Prod.fst = L.map Prod.fst) : Obk w' (x :: L') := by
 refine ⟨?_, ?_, h.2⟩
 ·show (x.1 :: L'.map Prod.fst).Nodup
  rw [hL]; exact E.1
 ·obtain ⟨b', e', l''⟩ := x
  exact E.2.1.keep hg fun q => by injection q with q; subst q; exact E.hd hm
theorem Obk.s1 (E : Obk w (x0 :: (b, e, l) :: L)) (hg : w.grownBy w' (some b)) (hB : Blk w' b e l') : Obk w' (x0 :: (b, e, l') :: L) := E.up hg (by simp) (E.tl.s0 hg hB) rfl
theorem Obk.s2 (E : Obk w (x0 :: x1 :: (b, e, l) :: L)) (hg : w.grownBy w' (some b)) (hB : Blk w' b e l') : Obk w' (x0 :: x1 :: (b, e, l') :: L) := E.up hg (by simp) (E.tl.s1 hg hB) rfl
theorem Obk.s3 (E : Obk w (x0 :: x1 :: x2 :: (b, e, l) :: L)) (hg : w.grownBy w' (some b)) (hB : Blk w' b e l') : Obk w' (x0 :: x1 :: x2 :: (b, e, l') :: L) := E.up hg (by simp) (E.tl.s2 hg hB) rfl
theorem Obk.s4 (E : Obk w (x0 :: x1 :: x2 :: x3 :: (b, e, l) :: L)) (hg : w.grownBy w' (some b)) (hB : Blk w' b e l') : Obk w' (x0 :: x1 :: x2 :: x3 :: (b, e, l') :: L) := E.up hg (by simp) (E.tl.s3 hg hB) rfl
theorem Obk.s5 (E : Obk w (x0 :: x1 :: x2 :: x3 :: x4 :: (b, e, l) :: L)) (hg : w.grownBy w' (some b)) (hB : Blk w' b e l') : Obk w' (x0 :: x1 :: x2 :: x3 :: x4 :: (b, e, l') :: L) := E.up hg (by simp) (E.tl.s4 hg hB) rfl
theorem Obk.r0 (E : Obk w ((b, e, l) :: L)) (hB : Blk w b e l') : Obk w ((b, e, l') :: L) := ⟨E.1, hB, E.2.2⟩
theorem Obk.r1 (E : Obk w (x0 :: (b, e, l) :: L)) (hB : Blk w b e l') : Obk w (x0 :: (b, e, l') :: L) := ⟨E.1, E.2.1, (E.tl.r0 hB).2⟩
theorem Obk.r2 (E : Obk w (x0 :: x1 :: (b, e, l) :: L)) (hB : Blk w b e l') : Obk w (x0 :: x1 :: (b, e, l') :: L) := ⟨E.1, E.2.1, (E.tl.r1 hB).2⟩
theorem Obk.r3 (E : Obk w (x0 :: x1 :: x2 :: (b, e, l) :: L)) (hB : Blk w b e l') : Obk w (x0 :: x1 :: x2 :: (b, e, l') :: L) := ⟨E.1, E.2.1, (E.tl.r2 hB).2⟩
theorem Obk.r4 (E : Obk w (x0 :: x1 :: x2 :: x3 :: (b, e, l) :: L)) (hB : Blk w b e l') : Obk w (x0 :: x1 :: x2 :: x3 :: (b, e, l') :: L) := ⟨E.1, E.2.1, (E.tl.r3 hB).2⟩
theorem Obk.r5 (E : Obk w (x0 :: x1 :: x2 :: x3 :: x4 :: (b, e, l) :: L)) (hB : Blk w b e l') : Obk w (x0 :: x1 :: x2 :: x3 :: x4 :: (b, e, l') :: L) := ⟨E.1, E.2.1, (E.tl.r4 hB).2⟩
theorem Obk.g0 (E : Obk w ((b, e, l) :: L)) : Blk w b e l := E.2.1
theorem Obk.g1 (E : Obk w (x0 :: (b, e, l) :: L)) : Blk w b e l := E.tl.g0
theorem Obk.g2 (E : Obk w (x0 :: x1 :: (b, e, l) :: L)) : Blk w b e l := E.tl.g1
theorem Obk.g3 (E : Obk w (x0 :: x1 :: x2 :: (b, e, l) :: L)) : Blk w b e l := E.tl.g2
theorem Obk.g4 (E : Obk w (x0 :: x1 :: x2 :: x3 :: (b, e, l) :: L)) : Blk w b e l := E.tl.g3
theorem Obk.g5 (E : Obk w (x0 :: x1 :: x2 :: x3 :: x4 :: (b, e, l) :: L)) : Blk w b e l := E.tl.g4
theorem Obk.g6 (E : Obk w (x0 :: x1 :: x2 :: x3 :: x4 :: x5 :: (b, e, l) :: L)) : Blk w b e l := E.tl.g5
theorem Obk.g7 (E : Obk w (x0 :: x1 :: x2 :: x3 :: x4 :: x5 :: x6 :: (b, e, l) :: L)) : Blk w b e l := E.tl.g6
theorem Obk.g8 (E : Obk w (x0 :: x1 :: x2 :: x3 :: x4 :: x5 :: x6 :: x7 :: (b, e, l) :: L)) : Blk w b e l := E.tl.g7
theorem Obk.g9 (E : Obk w (x0 :: x1 :: x2 :: x3 :: x4 :: x5 :: x6 :: x7 :: x8 :: (b, e, l) :: L)) : Blk w b e l := E.tl.g8
theorem Obk.g10 (E : Obk w (x0 :: x1 :: x2 :: x3 :: x4 :: x5 :: x6 :: x7 :: x8 :: x9 :: (b, e, l) :: L)) : Blk w b e l := E.tl.g9
theorem Obk.g11 (E : Obk w (x0 :: x1 :: x2 :: x3 :: x4 :: x5 :: x6 :: x7 :: x8 :: x9 :: x10 :: (b, e, l) :: L)) : Blk w b e l := E.tl.g10
theorem Obk.g12 (E : Obk w (x0 :: x1 :: x2 :: x3 :: x4 :: x5 :: x6 :: x7 :: x8 :: x9 :: x10 :: x11 :: (b, e, l) :: L)) : Blk w b e l := E.tl.g11
def selB {α : Type} : List Bool → List α → List α
 | true :: m, x :: L => x :: selB m L
 | false :: m, _ :: L => selB m L
 | _, _ => []
theorem Qob {α : Type} : ∀ (m : List Bool) (L : List α), (selB m L).Sublist L
 | [], L => List.nil_sublist L
 | true :: m, [] => List.Sublist.slnil
 | false :: m, [] => List.Sublist.slnil
 | true :: m, x :: L => (Qob m L).cons_cons x
 | false :: m, x :: L => (Qob m L).cons x
theorem Wxe {w : World} : ∀ {L L' : List (Nat × TypeId × List Value)}, AllOb w L → L'.Sublist L → AllOb w L' := fun {L L'} h hs => by
 induction hs with
 | slnil => trivial
 | cons x hs ih => obtain ⟨b, e, l⟩ := x; exact ih h.2
 | cons_cons x hs ih => obtain ⟨b, e, l⟩ := x; exact ⟨h.1, ih h.2⟩
theorem Obk.sel (E : Obk w L) (m : List Bool) : Obk w (selB m L) := ⟨E.1.sublist ((Qob m L).map _), Wxe E.2 (Qob m L)⟩
theorem Uwa {L0 : List (Nat × TypeId × List Value)} (hn : (L0.map Prod.fst).Nodup) (hA : AllOb w L) (h : L.map Prod.fst = L0.map Prod.fst) : Obk w L := ⟨h ▸ hn, hA⟩
theorem Obk.ne (E : Obk w L) {b b' : Nat} {e e' : TypeId} {l l' : List Value} (i j : Nat) (hi : L[i]? = some (b, e, l)) (hj : L[j]? = some (b', e', l')) (hij : Nat.beq i j = false) : b ≠ b' := fun q => by
 have h := E.1
 have h1 : (L.map Prod.fst)[i]? = some b := by rw [List.getElem?_map, hi]; rfl
 have h2 : (L.map Prod.fst)[j]? = some b' := by rw [List.getElem?_map, hj]; rfl
 obtain ⟨hi', e1⟩ := List.getElem?_eq_some_iff.1 h1
 obtain ⟨hj', e2⟩ := List.getElem?_eq_some_iff.1 h2
 have hp := List.pairwise_iff_getElem.1 h
 rcases Nat.lt_trichotomy i j with c | c | c
 ·exact hp i j hi' hj' c (e1.trans (q.trans e2.symm))
 ·subst c; simp at hij
 ·exact hp j i hj' hi' c (e2.trans (q.symm.trans e1.symm))
end
section
variable {P : Program} {n : Nat} {σ : List Ent} {c : Prop} {wb : World} {ty : TypeId} {v : Value}
end
end Go.Rk
namespace Go.Rk
open Go.Proofs
open Go
@[reducible] noncomputable def PP : Program := Tryz.prog
theorem mix : PP.follows .mixedOrders = true := by kernel_rfl
@[reducible] def Vfd : Nat := 3
@[reducible] def Yld : Nat := 4
@[reducible] def Ymd : Nat := 5
@[reducible] def Jqd : Nat := 6
@[reducible] def Wrd : Nat := 7
@[reducible] def Qzd : Nat := 8
@[reducible] def Uyb : Nat := 9
theorem Xtb : PP.funcs[9]? = some Tryz.f9 := Tryz.func9
@[reducible] def Xuf : Nat := 10
@[reducible] def Wye : Nat := 11
@[reducible] def Yxe : Nat := 12
@[reducible] def Yye : Nat := 13
@[reducible] def Ukf : Nat := 14
@[reducible] def Xgf : Nat := 15
@[reducible] def Jad : Nat := 16
@[reducible] def Jbd : Nat := 17
@[reducible] def Uwe : Nat := 18
@[reducible] def Wze : Nat := 19
@[reducible] def Jcd : Nat := 20
@[reducible] def Uxe : Nat := 21
@[reducible] def Ulf : Nat := 22
@[reducible] def Umf : Nat := 23
@[reducible] def Jaf : Nat := 24
@[reducible] def Xhf : Nat := 25
@[reducible] def Ynd : Nat := 26
theorem Yod : goFn PP 26 = true := by kernel_rfl
theorem Wwc : PP.funcs[26]? = some Tryz.f26 := Tryz.func26
@[reducible] def Ypd : Nat := 27
theorem Qpb : goFn PP 27 = true := by kernel_rfl
theorem Wxc : PP.funcs[27]? = some Tryz.f27 := Tryz.func27
@[reducible] def Yqd : Nat := 28
theorem Qqb : goFn PP 28 = true := by kernel_rfl
theorem Wyc : PP.funcs[28]? = some Tryz.f28 := Tryz.func28
@[reducible] def Yrd : Nat := 29
theorem Qrb : goFn PP 29 = true := by kernel_rfl
theorem Wzc : PP.funcs[29]? = some Tryz.f29 := Tryz.func29
@[reducible] def Xvf : Nat := 30
@[reducible] def Jbf : Nat := 31
@[reducible] def Jdd : Nat := 32
@[reducible] def Uye : Nat := 33
@[reducible] def Jed : Nat := 34
@[reducible] def Unf : Nat := 35
@[reducible] def Uze : Nat := 36
@[reducible] def Jcf : Nat := 37
@[reducible] def Vae : Nat := 38
theorem Xfa : goFn PP 38 = true := by kernel_rfl
theorem Vgd : PP.funcs[38]? = some Tryz.f38 := Tryz.func38
@[reducible] def Wsd : Nat := 39
@[reducible] def Wtd : Nat := 40
@[reducible] def Xif : Nat := 41
@[reducible] def Qmc : Nat := 42
theorem Uib : goFn PP 42 = true := by kernel_rfl
theorem Ymc : PP.funcs[42]? = some Tryz.f42 := Tryz.func42
@[reducible] def Qnc : Nat := 43
theorem Yta : goFn PP 43 = true := by kernel_rfl
theorem Ync : PP.funcs[43]? = some Tryz.f43 := Tryz.func43
@[reducible] def Jca : Nat := 44
theorem Jp : goFn PP 44 = true := by kernel_rfl
theorem Yxb : PP.funcs[44]? = some Tryz.f44 := Tryz.func44
@[reducible] def Ysd : Nat := 45
theorem Qsb : goFn PP 45 = true := by kernel_rfl
theorem Vac : PP.funcs[45]? = some Tryz.f45 := Tryz.func45
@[reducible] def Vbc : Nat := 46
theorem Vcc : goFn PP 46 = true := by kernel_rfl
theorem Jyb : PP.funcs[46]? = some Tryz.f46 := Tryz.func46
@[reducible] def Yoc : Nat := 47
theorem Ypc : goFn PP 47 = true := by kernel_rfl
theorem Qtb : PP.funcs[47]? = some Tryz.f47 := Tryz.func47
@[reducible] def Ytd : Nat := 48
theorem Yud : goFn PP 48 = true := by kernel_rfl
theorem Vdc : PP.funcs[48]? = some Tryz.f48 := Tryz.func48
@[reducible] def Vpb : Nat := 49
theorem Yz : goFn PP 49 = true := by kernel_rfl
theorem Yyb : PP.funcs[49]? = some Tryz.f49 := Tryz.func49
@[reducible] def Yvd : Nat := 50
theorem Vg : goFn PP 50 = true := by kernel_rfl
theorem Vec : PP.funcs[50]? = some Tryz.f50 := Tryz.func50
@[reducible] def Ydc : Nat := 51
theorem Jz : goFn PP 51 = true := by kernel_rfl
theorem Qoc : PP.funcs[51]? = some Tryz.f51 := Tryz.func51
@[reducible] def Jda : Nat := 52
theorem Jea : goFn PP 52 = true := by kernel_rfl
theorem Uxa : PP.funcs[52]? = some Tryz.f52 := Tryz.func52
@[reducible] def Zyb : Nat := 53
theorem Yga : goFn PP 53 = true := by kernel_rfl
theorem Jfa : PP.funcs[53]? = some Tryz.f53 := Tryz.func53
@[reducible] def Wca : Nat := 54
theorem Jua : goFn PP 54 = true := by kernel_rfl
theorem Qla : PP.funcs[54]? = some Tryz.f54 := Tryz.func54
@[reducible] def Vhd : Nat := 55
theorem Qy : goFn PP 55 = true := by kernel_rfl
theorem Qpc : PP.funcs[55]? = some Tryz.f55 := Tryz.func55
@[reducible] def Yqc : Nat := 56
theorem Yrc : goFn PP 56 = true := by kernel_rfl
theorem Qub : PP.funcs[56]? = some Tryz.f56 := Tryz.func56
@[reducible] def Uca : Nat := 57
theorem Xga : goFn PP 57 = true := by kernel_rfl
theorem Vfc : PP.funcs[57]? = some Tryz.f57 := Tryz.func57
@[reducible] def Uof : Nat := 58
@[reducible] def Jrd : Nat := 59
@[reducible] def Jsd : Nat := 60
@[reducible] def Vid : Nat := 61
@[reducible] def Ywd : Nat := 62
theorem Qvb : goFn PP 62 = true := by kernel_rfl
theorem Vgc : PP.funcs[62]? = some Tryz.f62 := Tryz.func62
@[reducible] def Upf : Nat := 63
@[reducible] def Yze : Nat := 64
@[reducible] def Xjf : Nat := 65
@[reducible] def Qqc : Nat := 66
theorem Vja : goFn PP 66 = true := by kernel_rfl
theorem Ysc : PP.funcs[66]? = some Tryz.f66 := Tryz.func66
@[reducible] def Qrc : Nat := 67
theorem Zta : goFn PP 67 = true := by kernel_rfl
theorem Ytc : PP.funcs[67]? = some Tryz.f67 := Tryz.func67
@[reducible] def Qsc : Nat := 68
theorem Ujb : goFn PP 68 = true := by kernel_rfl
theorem Yuc : PP.funcs[68]? = some Tryz.f68 := Tryz.func68
@[reducible] def Qtc : Nat := 69
theorem Quc : goFn PP 69 = true := by kernel_rfl
theorem Yvc : PP.funcs[69]? = some Tryz.f69 := Tryz.func69
@[reducible] def Yxd : Nat := 70
theorem Yyd : goFn PP 70 = true := by kernel_rfl
theorem Vhc : PP.funcs[70]? = some Tryz.f70 := Tryz.func70
@[reducible] def Zzb : Nat := 71
theorem Ql : goFn PP 71 = true := by kernel_rfl
theorem Jga : PP.funcs[71]? = some Tryz.f71 := Tryz.func71
@[reducible] def Xub : Nat := 72
theorem Yza : goFn PP 72 = true := by kernel_rfl
theorem Yab : PP.funcs[72]? = some Tryz.f72 := Tryz.func72
@[reducible] def Jt : Nat := 73
theorem Qz : goFn PP 73 = true := by kernel_rfl
theorem Ybb : PP.funcs[73]? = some Tryz.f73 := Tryz.func73
@[reducible] def Vjd : Nat := 74
theorem Wda : goFn PP 74 = true := by kernel_rfl
theorem Qvc : PP.funcs[74]? = some Tryz.f74 := Tryz.func74
@[reducible] def Vqb : Nat := 75
theorem Vxa : goFn PP 75 = true := by kernel_rfl
theorem Yzb : PP.funcs[75]? = some Tryz.f75 := Tryz.func75
@[reducible] def Ywc : Nat := 76
theorem Yxc : goFn PP 76 = true := by kernel_rfl
theorem Qwb : PP.funcs[76]? = some Tryz.f76 := Tryz.func76
@[reducible] def Xab : Nat := 77
theorem Ut : goFn PP 77 = true := by kernel_rfl
theorem Jva : PP.funcs[77]? = some Tryz.f77 := Tryz.func77
@[reducible] def Jdf : Nat := 78
@[reducible] def Jtd : Nat := 79
@[reducible] def Jud : Nat := 80
@[reducible] def Vbe : Nat := 81
@[reducible] def Jfd : Nat := 82
@[reducible] def Jvc : Nat := 83
@[reducible] def Jvd : Nat := 84
@[reducible] def Xae : Nat := 85
@[reducible] def Vkd : Nat := 86
@[reducible] def Jgd : Nat := 87
@[reducible] def Yzd : Nat := 88
theorem Xad : goFn PP 88 = true := by kernel_rfl
theorem Vic : PP.funcs[88]? = some Tryz.f88 := Tryz.func88
@[reducible] def Vld : Nat := 89
theorem Zna : goFn PP 89 = true := by kernel_rfl
theorem Qwc : PP.funcs[89]? = some Tryz.f89 := Tryz.func89
@[reducible] def Yyc : Nat := 90
theorem Yzc : goFn PP 90 = true := by kernel_rfl
theorem Qxb : PP.funcs[90]? = some Tryz.f90 := Tryz.func90
@[reducible] def Vjc : Nat := 91
theorem Vkc : goFn PP 91 = true := by kernel_rfl
theorem Jzb : PP.funcs[91]? = some Tryz.f91 := Tryz.func91
@[reducible] def Qxc : Nat := 92
theorem Ukb : goFn PP 92 = true := by kernel_rfl
theorem Xac : PP.funcs[92]? = some Tryz.f92 := Tryz.func92
@[reducible] def Xbd : Nat := 93
theorem Qyb : goFn PP 93 = true := by kernel_rfl
theorem Vlc : PP.funcs[93]? = some Tryz.f93 := Tryz.func93
@[reducible] def Qyc : Nat := 94
theorem Yua : goFn PP 94 = true := by kernel_rfl
theorem Xbc : PP.funcs[94]? = some Tryz.f94 := Tryz.func94
@[reducible] def Xvb : Nat := 95
theorem Zga : goFn PP 95 = true := by kernel_rfl
theorem Zac : PP.funcs[95]? = some Tryz.f95 := Tryz.func95
@[reducible] def Xcd : Nat := 96
theorem Xha : goFn PP 96 = true := by kernel_rfl
theorem Vmc : PP.funcs[96]? = some Tryz.f96 := Tryz.func96
@[reducible] def Zva : Nat := 97
theorem Vya : goFn PP 97 = true := by kernel_rfl
theorem Xbb : PP.funcs[97]? = some Tryz.f97 := Tryz.func97
@[reducible] def Vnc : Nat := 98
theorem Voc : goFn PP 98 = true := by kernel_rfl
theorem Zbc : PP.funcs[98]? = some Tryz.f98 := Tryz.func98
@[reducible] def Vpc : Nat := 99
theorem Vqc : goFn PP 99 = true := by kernel_rfl
theorem Zcc : PP.funcs[99]? = some Tryz.f99 := Tryz.func99
@[reducible] def Uqf : Nat := 100
@[reducible] def Urf : Nat := 101
@[reducible] def Vmd : Nat := 102
@[reducible] def Vnd : Nat := 103
@[reducible] def Jhd : Nat := 104
@[reducible] def Vod : Nat := 105
theorem Vpd : goFn PP 105 = true := by kernel_rfl
theorem Qzc : PP.funcs[105]? = some Tryz.f105 := Tryz.func105
@[reducible] def Jac : Nat := 106
theorem Ulb : goFn PP 106 = true := by kernel_rfl
theorem Xcc : PP.funcs[106]? = some Tryz.f106 := Tryz.func106
@[reducible] def Vrc : Nat := 107
theorem Vsc : goFn PP 107 = true := by kernel_rfl
theorem Zdc : PP.funcs[107]? = some Tryz.f107 := Tryz.func107
@[reducible] def Xdd : Nat := 108
theorem Xed : goFn PP 108 = true := by kernel_rfl
theorem Vtc : PP.funcs[108]? = some Tryz.f108 := Tryz.func108
@[reducible] def Jbc : Nat := 109
theorem Zaa : goFn PP 109 = true := by kernel_rfl
theorem Xdc : PP.funcs[109]? = some Tryz.f109 := Tryz.func109
@[reducible] def Umb : Nat := 110
theorem Jd : goFn PP 110 = true := by kernel_rfl
theorem Xec : PP.funcs[110]? = some Tryz.f110 := Tryz.func110
@[reducible] def Unb : Nat := 111
theorem Xta : goFn PP 111 = true := by kernel_rfl
theorem Xfc : PP.funcs[111]? = some Tryz.f111 := Tryz.func111
@[reducible] def Zec : Nat := 112
theorem Xia : goFn PP 112 = true := by kernel_rfl
theorem Uzb : PP.funcs[112]? = some Tryz.f112 := Tryz.func112
@[reducible] def Zoa : Nat := 113
theorem Ju : goFn PP 113 = true := by kernel_rfl
theorem Ycb : PP.funcs[113]? = some Tryz.f113 := Tryz.func113
@[reducible] def Zka : Nat := 114
theorem Wva : goFn PP 114 = true := by kernel_rfl
theorem Jwa : PP.funcs[114]? = some Tryz.f114 := Tryz.func114
@[reducible] def Xcb : Nat := 115
theorem Xdb : goFn PP 115 = true := by kernel_rfl
theorem Jxa : PP.funcs[115]? = some Tryz.f115 := Tryz.func115
@[reducible] def Xoa : Nat := 116
theorem Qma : goFn PP 116 = true := by kernel_rfl
theorem Uda : PP.funcs[116]? = some Tryz.f116 := Tryz.func116
@[reducible] def Qp : Nat := 117
theorem Wn : goFn PP 117 = true := by kernel_rfl
theorem Xeb : PP.funcs[117]? = some Tryz.f117 := Tryz.func117
@[reducible] def Qzb : Nat := 118
theorem Jf : goFn PP 118 = true := by kernel_rfl
theorem Vrb : PP.funcs[118]? = some Tryz.f118 := Tryz.func118
@[reducible] def Zua : Nat := 119
theorem Xua : goFn PP 119 = true := by kernel_rfl
theorem Uya : PP.funcs[119]? = some Tryz.f119 := Tryz.func119
@[reducible] def Vsb : Nat := 120
theorem Vn : goFn PP 120 = true := by kernel_rfl
theorem Xfb : PP.funcs[120]? = some Tryz.f120 := Tryz.func120
@[reducible] def Vuc : Nat := 121
theorem Vvc : goFn PP 121 = true := by kernel_rfl
theorem Zfc : PP.funcs[121]? = some Tryz.f121 := Tryz.func121
@[reducible] def Xgc : Nat := 122
theorem Qd : goFn PP 122 = true := by kernel_rfl
theorem Jab : PP.funcs[122]? = some Tryz.f122 := Tryz.func122
@[reducible] def Xhc : Nat := 123
theorem Yma : goFn PP 123 = true := by kernel_rfl
theorem Jbb : PP.funcs[123]? = some Tryz.f123 := Tryz.func123
@[reducible] def Vwc : Nat := 124
theorem Uu : goFn PP 124 = true := by kernel_rfl
theorem Zgc : PP.funcs[124]? = some Tryz.f124 := Tryz.func124
@[reducible] def Xic : Nat := 125
theorem Yna : goFn PP 125 = true := by kernel_rfl
theorem Jcb : PP.funcs[125]? = some Tryz.f125 := Tryz.func125
@[reducible] def Zhc : Nat := 126
theorem Zza : goFn PP 126 = true := by kernel_rfl
theorem Qab : PP.funcs[126]? = some Tryz.f126 := Tryz.func126
@[reducible] def Xwb : Nat := 127
theorem Uy : goFn PP 127 = true := by kernel_rfl
theorem Ydb : PP.funcs[127]? = some Tryz.f127 := Tryz.func127
@[reducible] def Vtb : Nat := 128
theorem Vub : goFn PP 128 = true := by kernel_rfl
theorem Xgb : PP.funcs[128]? = some Tryz.f128 := Tryz.func128
@[reducible] def Jya : Nat := 129
theorem Jza : goFn PP 129 = true := by kernel_rfl
theorem Qna : PP.funcs[129]? = some Tryz.f129 := Tryz.func129
@[reducible] def Qqe : Nat := 130
@[reducible] def Qae : Nat := 131
@[reducible] def Jwd : Nat := 132
@[reducible] def Xxb : Nat := 133
theorem Xyb : goFn PP 133 = true := by kernel_rfl
theorem Yeb : PP.funcs[133]? = some Tryz.f133 := Tryz.func133
@[reducible] def Qbb : Nat := 134
theorem Zha : goFn PP 134 = true := by kernel_rfl
theorem Xzb : PP.funcs[134]? = some Tryz.f134 := Tryz.func134
@[reducible] def Xjc : Nat := 135
theorem Xkc : goFn PP 135 = true := by kernel_rfl
theorem Jdb : PP.funcs[135]? = some Tryz.f135 := Tryz.func135
@[reducible] def Yec : Nat := 136
theorem Yfc : goFn PP 136 = true := by kernel_rfl
theorem Jcc : PP.funcs[136]? = some Tryz.f136 := Tryz.func136
@[reducible] def Xlc : Nat := 137
theorem Xmc : goFn PP 137 = true := by kernel_rfl
theorem Jeb : PP.funcs[137]? = some Tryz.f137 := Tryz.func137
@[reducible] def Vqd : Nat := 138
theorem Wab : goFn PP 138 = true := by kernel_rfl
theorem Jdc : PP.funcs[138]? = some Tryz.f138 := Tryz.func138
@[reducible] def Xfd : Nat := 139
theorem Jfb : goFn PP 139 = true := by kernel_rfl
theorem Vxc : PP.funcs[139]? = some Tryz.f139 := Tryz.func139
@[reducible] def Vvb : Nat := 140
theorem Vza : goFn PP 140 = true := by kernel_rfl
theorem Xhb : PP.funcs[140]? = some Tryz.f140 := Tryz.func140
@[reducible] def Vwb : Nat := 141
theorem Zwa : goFn PP 141 = true := by kernel_rfl
theorem Xib : PP.funcs[141]? = some Tryz.f141 := Tryz.func141
@[reducible] def Yfb : Nat := 142
theorem Ygb : goFn PP 142 = true := by kernel_rfl
theorem Jha : PP.funcs[142]? = some Tryz.f142 := Tryz.func142
@[reducible] def Uaa : Nat := 143
theorem Vxb : goFn PP 143 = true := by kernel_rfl
theorem Xjb : PP.funcs[143]? = some Tryz.f143 := Tryz.func143
@[reducible] def Xkb : Nat := 144
theorem Yva : goFn PP 144 = true := by kernel_rfl
theorem Zab : PP.funcs[144]? = some Tryz.f144 := Tryz.func144
@[reducible] def Wwa : Nat := 145
theorem Ywa : goFn PP 145 = true := by kernel_rfl
theorem Zbb : PP.funcs[145]? = some Tryz.f145 := Tryz.func145
@[reducible] def Jia : Nat := 146
theorem Jja : goFn PP 146 = true := by kernel_rfl
theorem Uza : PP.funcs[146]? = some Tryz.f146 := Tryz.func146
@[reducible] def Jgb : Nat := 147
theorem Jhb : goFn PP 147 = true := by kernel_rfl
theorem Vyb : PP.funcs[147]? = some Tryz.f147 := Tryz.func147
@[reducible] def Qcb : Nat := 148
theorem Qdb : goFn PP 148 = true := by kernel_rfl
theorem Wbb : PP.funcs[148]? = some Tryz.f148 := Tryz.func148
@[reducible] def Jxd : Nat := 149
@[reducible] def Wud : Nat := 150
@[reducible] def Vrd : Nat := 151
@[reducible] def Jec : Nat := 152
@[reducible] def Vsd : Nat := 153
@[reducible] def Zcb : Nat := 154
theorem Zdb : goFn PP 154 = true := by kernel_rfl
theorem Qoa : PP.funcs[154]? = some Tryz.f154 := Tryz.func154
@[reducible] def Wcb : Nat := 155
theorem Vma : goFn PP 155 = true := by kernel_rfl
theorem Yhb : PP.funcs[155]? = some Tryz.f155 := Tryz.func155
@[reducible] def Vzb : Nat := 156
theorem Xsa : goFn PP 156 = true := by kernel_rfl
theorem Xlb : PP.funcs[156]? = some Tryz.f156 := Tryz.func156
@[reducible] def Yib : Nat := 157
theorem Yjb : goFn PP 157 = true := by kernel_rfl
theorem Jka : PP.funcs[157]? = some Tryz.f157 := Tryz.func157
@[reducible] def Vyc : Nat := 158
theorem Qaa : goFn PP 158 = true := by kernel_rfl
theorem Zic : PP.funcs[158]? = some Tryz.f158 := Tryz.func158
@[reducible] def Ykb : Nat := 159
theorem Ylb : goFn PP 159 = true := by kernel_rfl
theorem Jla : PP.funcs[159]? = some Tryz.f159 := Tryz.func159
@[reducible] def Jfc : Nat := 160
theorem Jma : goFn PP 160 = true := by kernel_rfl
theorem Xnc : PP.funcs[160]? = some Tryz.f160 := Tryz.func160
@[reducible] def Xoc : Nat := 161
theorem Xpc : goFn PP 161 = true := by kernel_rfl
theorem Jib : PP.funcs[161]? = some Tryz.f161 := Tryz.func161
@[reducible] def Uab : Nat := 162
theorem Zxa : goFn PP 162 = true := by kernel_rfl
theorem Xmb : PP.funcs[162]? = some Tryz.f162 := Tryz.func162
@[reducible] def Ubb : Nat := 163
theorem Ucb : goFn PP 163 = true := by kernel_rfl
@[reducible] def Uob : Nat := 164
theorem Jgc : goFn PP 164 = true := by kernel_rfl
theorem Xqc : PP.funcs[164]? = some Tryz.f164 := Tryz.func164
@[reducible] def Wxa : Nat := 165
theorem Xnb : goFn PP 165 = true := by kernel_rfl
theorem Zeb : PP.funcs[165]? = some Tryz.f165 := Tryz.func165
@[reducible] def Jhc : Nat := 166
theorem Jic : goFn PP 166 = true := by kernel_rfl
theorem Xrc : PP.funcs[166]? = some Tryz.f166 := Tryz.func166
@[reducible] def Jjc : Nat := 167
theorem Jkc : goFn PP 167 = true := by kernel_rfl
theorem Xsc : PP.funcs[167]? = some Tryz.f167 := Tryz.func167
@[reducible] def Jid : Nat := 168
@[reducible] def Xwf : Nat := 169
@[reducible] def Wvd : Nat := 170
@[reducible] def Wwd : Nat := 171
@[reducible] def Vzc : Nat := 172
theorem Uac : goFn PP 172 = true := by kernel_rfl
theorem Zjc : PP.funcs[172]? = some Tryz.f172 := Tryz.func172
@[reducible] def Wka : Nat := 173
theorem Wla : goFn PP 173 = true := by kernel_rfl
theorem Xva : PP.funcs[173]? = some Tryz.f173 := Tryz.func173
@[reducible] def Jyd : Nat := 175
@[reducible] def Wea : Nat := 176
theorem Zfb : goFn PP 176 = true := by kernel_rfl
theorem Qpa : PP.funcs[176]? = some Tryz.f176 := Tryz.func176
@[reducible] def Upb : Nat := 177
theorem Uqb : goFn PP 177 = true := by kernel_rfl
theorem Xtc : PP.funcs[177]? = some Tryz.f177 := Tryz.func177
@[reducible] def Jjb : Nat := 178
theorem Jkb : goFn PP 178 = true := by kernel_rfl
theorem Udb : PP.funcs[178]? = some Tryz.f178 := Tryz.func178
@[reducible] def Xgd : Nat := 180
@[reducible] def Wxd : Nat := 181
@[reducible] def Vtd : Nat := 182
@[reducible] def Jwc : Nat := 183
@[reducible] def Ygc : Nat := 186
@[reducible] def Qbe : Nat := 188
@[reducible] def ty_int64 : Nat := 2
@[reducible] def Wdb : Nat := 3
theorem Vb : tySize PP 3 = some 1 := by kernel_rfl
theorem Yxa : zeroOf PP 3 = some (.int .i64 0) := by kernel_rfl
theorem Zu : tyOne PP 3 = true := by kernel_rfl
@[reducible] def ty_bool : Nat := 4
theorem Zgb : tyOne PP 4 = true := by kernel_rfl
theorem Vud : PP.underlying 4 = some .bool := by kernel_rfl
@[reducible] def ty_uint8 : Nat := 5
@[reducible] def ty_string : Nat := 9
theorem Yr : tyOne PP 9 = true := by kernel_rfl
theorem Ue : Zzc PP 9 = true := by kernel_rfl
@[reducible] def Qre : Nat := 22
theorem Xb : tySize PP 22 = some 1 := by kernel_rfl
theorem Zh : tyOne PP 22 = true := by kernel_rfl
theorem Zf : tyElem PP 22 = some (26, 9, 104) := by kernel_rfl
@[reducible] def Jj : Nat := 24
theorem Yn : tySize PP 24 = some 2 := by kernel_rfl
theorem Yq : zeroOf PP 24 = some (.agg #[.int .i64 0, .string ⟨#[]⟩]) := by kernel_rfl
theorem Zs : Ywb PP 24 = some 2 := by kernel_rfl
theorem Uz : Wrc PP 24 = some [0, 1] := by kernel_rfl
theorem Ws : Vl PP 24 0 = some 0 := by kernel_rfl
theorem Jna : Vl PP 24 1 = some 1 := by kernel_rfl
theorem Xv : Je PP 24 = some [(0, 1), (1, 1)] := by kernel_rfl
@[reducible] def Vd : Nat := 26
theorem Zl : tySize PP 26 = some 9 := by kernel_rfl
theorem Zm : zeroOf PP 26 = some (.agg #[.int .i64 0, .string ⟨#[]⟩, .int .i64 0, .int .i64 0, .slice none 0 0, .int .i64 0, .string ⟨#[]⟩, .int .i64 0, .int .i64 0]) := by kernel_rfl
theorem Zc : Ywb PP 26 = some 9 := by kernel_rfl
theorem Yd : Vl PP 26 0 = some 0 := by kernel_rfl
theorem Ym : Vl PP 26 1 = some 1 := by kernel_rfl
theorem Xl : Vl PP 26 2 = some 2 := by kernel_rfl
theorem Yw : Vl PP 26 3 = some 3 := by kernel_rfl
theorem Zi : Vl PP 26 4 = some 4 := by kernel_rfl
theorem Xa : Vl PP 26 5 = some 5 := by kernel_rfl
theorem Uj : Vl PP 26 6 = some 7 := by kernel_rfl
theorem Jlc : Vl PP 26 7 = some 8 := by kernel_rfl
theorem Wl : Je PP 26 = some [(0, 1), (1, 1), (2, 1), (3, 1), (4, 1), (5, 2), (7, 1), (8, 1)] := by kernel_rfl
@[reducible] def Qce : Nat := 30
@[reducible] def Qjc : Nat := 32
@[reducible] def Xbe : Nat := 35
@[reducible] def Qkc : Nat := 39
@[reducible] def Xhd : Nat := 42
@[reducible] def Xxf : Nat := 44
@[reducible] def Qse : Nat := 47
@[reducible] def Jef : Nat := 48
@[reducible] def Xyf : Nat := 50
theorem Xid : tySize PP 50 = some 1 := by kernel_rfl
theorem Zba : tyOne PP 50 = true := by kernel_rfl
@[reducible] def Qde : Nat := 54
@[reducible] def Xjd : Nat := 58
@[reducible] def Jxc : Nat := 59
@[reducible] def Xuc : Nat := 64
@[reducible] def Zkc : Nat := 65
theorem Qm : tySize PP 65 = some 1 := by kernel_rfl
theorem Wf : tyOne PP 65 = true := by kernel_rfl
theorem Wc : tyElem PP 65 = some (103, 6, 64) := by kernel_rfl
@[reducible] def Vce : Nat := 66
theorem Zlc : tySize PP 66 = some 1 := by kernel_rfl
theorem Qba : tyOne PP 66 = true := by kernel_rfl
theorem Ul : tyElem PP 66 = some (3, 1, 8) := by kernel_rfl
@[reducible] def Uf : Nat := 68
theorem Qca : tySize PP 68 = some 17 := by kernel_rfl
theorem Xaa : zeroOf PP 68 = some (.agg #[.int .i64 0, .string ⟨#[]⟩, .int .i64 0, .int .i64 0, .slice none 0 0, .int .i64 0, .string ⟨#[]⟩, .int .i64 0, .int .i64 0, .slice none 0 0, .int .i64 0, .int .i64 0, .slice none 0 0, .int .i64 0, .string ⟨#[]⟩, .int .i64 0, .int .i64 0]) := by kernel_rfl
theorem Uea : Ywb PP 68 = some 17 := by kernel_rfl
theorem Vw : Vl PP 68 0 = some 0 := by kernel_rfl
theorem Xx : Vl PP 68 1 = some 9 := by kernel_rfl
theorem Vh : Vl PP 68 2 = some 10 := by kernel_rfl
theorem Wv : Vl PP 68 3 = some 11 := by kernel_rfl
theorem Vx : Vl PP 68 4 = some 12 := by kernel_rfl
theorem Vi : Vl PP 68 5 = some 13 := by kernel_rfl
theorem Qs : Vl PP 68 6 = some 15 := by kernel_rfl
theorem Va : Vl PP 68 7 = some 16 := by kernel_rfl
theorem Qda : Je PP 68 = some [(0, 9), (9, 1), (10, 1), (11, 1), (12, 1), (13, 2), (15, 1), (16, 1)] := by kernel_rfl
@[reducible] def Qee : Nat := 73
theorem Vva : tySize PP 73 = some 1 := by kernel_rfl
theorem Zda : tyOne PP 73 = true := by kernel_rfl
theorem Qe : tyElem PP 73 = some (100, 3, 32) := by kernel_rfl
@[reducible] def Wbc : Nat := 76
@[reducible] def Qlc : Nat := 78
@[reducible] def Xzf : Nat := 83
@[reducible] def Vde : Nat := 85
theorem Xp : tySize PP 85 = some 2 := by kernel_rfl
theorem Wd : zeroOf PP 85 = some (.agg #[.bool false, .int .i64 0]) := by kernel_rfl
theorem Xu : Ywb PP 85 = some 2 := by kernel_rfl
theorem Jn : Vl PP 85 0 = some 0 := by kernel_rfl
theorem Xe : Vl PP 85 1 = some 1 := by kernel_rfl
theorem Wz : Je PP 85 = some [(0, 1), (1, 1)] := by kernel_rfl
@[reducible] def Yha : Nat := 100
theorem Xkd : tySize PP 100 = some 3 := by kernel_rfl
theorem Jq : zeroOf PP 100 = some (.agg #[.int .i64 0, .string ⟨#[]⟩, .int .i64 0]) := by kernel_rfl
theorem Jmc : Ywb PP 100 = some 3 := by kernel_rfl
theorem Qea : Vl PP 100 0 = some 0 := by kernel_rfl
theorem Web : Vl PP 100 1 = some 1 := by kernel_rfl
theorem Ymb : Je PP 100 = some [(0, 1), (1, 1), (2, 1)] := by kernel_rfl
@[reducible] def Wx : Nat := 103
theorem Ufa : tySize PP 103 = some 6 := by kernel_rfl
theorem Qf : zeroOf PP 103 = some (.agg #[.string ⟨#[]⟩, .int .i64 0, .string ⟨#[]⟩, .int .i64 0, .int .i64 0, .int .i64 0]) := by kernel_rfl
theorem Vwa : Ywb PP 103 = some 6 := by kernel_rfl
theorem Yda : Vl PP 103 0 = some 0 := by kernel_rfl
theorem Vna : Vl PP 103 1 = some 1 := by kernel_rfl
theorem Voa : Vl PP 103 2 = some 3 := by kernel_rfl
theorem Vpa : Vl PP 103 3 = some 4 := by kernel_rfl
theorem Yea : Vl PP 103 4 = some 5 := by kernel_rfl
theorem Uga : Je PP 103 = some [(0, 1), (1, 2), (3, 1), (4, 1), (5, 1)] := by kernel_rfl
@[reducible] def Xce : Nat := 110
@[reducible] def Yoa : Nat := 114
theorem Xvc : zeroOf PP 114 = some (.agg #[.string ⟨#[]⟩, .int .i64 0, .slice none 0 0, .slice none 0 0]) := by kernel_rfl
theorem Um : Vl PP 114 0 = some 0 := by kernel_rfl
theorem Xn : Vl PP 114 1 = some 1 := by kernel_rfl
theorem Jg : Vl PP 114 2 = some 2 := by kernel_rfl
theorem Qra : Vl PP 114 3 = some 3 := by kernel_rfl
theorem Xwc : Je PP 114 = some [(0, 1), (1, 1), (2, 1), (3, 1)] := by kernel_rfl
@[reducible] def Jzd : Nat := 115
@[reducible] def Zhb : Nat := 119
theorem Zmc : tySize PP 119 = some 1 := by kernel_rfl
theorem Vu : zeroOf PP 119 = some (.nilFunc) := by kernel_rfl
theorem Woa : tyOne PP 119 = true := by kernel_rfl
@[reducible] def Jjd : Nat := 128
theorem Wu : tyElem PP 128 = some (119, 1, 8) := by kernel_rfl
@[reducible] def ty_uint64 : Nat := 129
@[reducible] def ty_error : Nat := 135
theorem Vvd : PP.isIface 135 = true := by kernel_rfl
@[reducible] def Waf : Nat := 138
theorem Jnc : Ywb PP 138 = some 27 := by kernel_rfl
theorem Xld : Jnd PP 138 = some 27 := by kernel_rfl
@[reducible] def Qte : Nat := 139
theorem Un : tyElem PP 139 = some (24, 2, 24) := by kernel_rfl
@[reducible] def Qfe : Nat := 142
theorem Ypa : tyElem PP 142 = some (146, 3, 40) := by kernel_rfl
@[reducible] def Uha : Nat := 146
theorem Ynb : zeroOf PP 146 = some (.agg #[.string ⟨#[]⟩, .int .i64 0, .string ⟨#[]⟩]) := by kernel_rfl
theorem Ubc : Vl PP 146 0 = some 0 := by kernel_rfl
theorem Ucc : Vl PP 146 1 = some 1 := by kernel_rfl
theorem Xmd : Je PP 146 = some [(0, 1), (1, 2)] := by kernel_rfl
@[reducible] def Vee : Nat := 152
@[reducible] def Wyd : Nat := 156
@[reducible] def Usf : Nat := 160
@[reducible] def Jkd : Nat := 162
@[reducible] def Jff : Nat := 164
theorem Xq : True := trivial
def letterB (c : Int) : Bool := (decide (97 ≤ c) && decide (c ≤ 122) || decide (65 ≤ c) && decide (c ≤ 90)) || decide (c = 95)
def digitB (c : Int) : Bool := decide (48 ≤ c) && decide (c ≤ 57)
theorem Znc (c : Int) (w : World) : Ret PP Vyc #[.int .u8 c] w fun v w' => v = .bool (letterB c) ∧ G w w' := by
  have g := G.refl w
  refine Yp (m := 21) Zic J J [(0, True, _)] (Za J (Zj _)) ?_
  refine Ze (Zg (Zp J (Zb (kq (Ze (Zg (Zt J (Xsb J J (Zt J (Zn J J J (fun _ => Yl (Zk J)) (Zn J J J (fun _ => Ufb (Zq J id) Xy) (Yi J (fun _ => Zz (Zk J) (Zq J id)) (Zt J (Zn J J J (fun _ => Yl (Zk J)) (Zn J J J (fun _ => Ugb (Zq J id) Xy) (Zn J J J (fun _ => Yl (Zq J id)) (?_)))))))))))))))))
  refine Zn J J J (fun _ => Yl (Zk J)) (Zn J J J (fun _ => Ufb (Zq J id) Xy) (Zn J J J (fun _ => Zz (Zq J id) (Zq J id)) (Yi J (fun _ => Xh (Zk J) (Zq J id)) (Zt J (Zn J J J (fun _ => Yl (Zk J)) (Zn J J J (fun _ => Vt (Zq J id) Xy) (Yi J (fun _ => Xh (Zk J) (Zq J id)) (Zp J (Zb (kq (Zr (Yx J J ?_))))))))))))
  exact ⟨rfl, g⟩
theorem Udc (c : Int) (w : World) : Ret PP Jfc #[.int .u8 c] w fun v w' => v = .bool (digitB c) ∧ G w w' := by
  have g := G.refl w
  refine Yp (m := 9) Xnc J J [(0, True, _)] (Za J (Zj _)) ?_
  refine Ze (Zg (Zp J (Zb (kq (Ze (Zg (Zt J (Xsb J J (Zt J (Zn J J J (fun _ => Yl (Zk J)) (Zn J J J (fun _ => Ufb (Zq J id) Xy) (Yi J (fun _ => Zz (Zk J) (Zq J id)) (Zp J (Zb (kq (Zr (Yx J J ?_)))))))))))))))))
  exact ⟨rfl, g⟩
theorem Que (c : Int) (w : World) : Ret PP Yib #[.int .u8 c] w fun v w' => v = .bool (!decide (c = 10)) ∧ G w w' := by
  have g := G.refl w
  refine Yp (m := 5) Jka J J [(0, True, _)] (Za J (Zj _)) ?_
  refine Ze (Zg (Zp J (Zb (kq (Ze (Zg (Zt J (Wja J J (Zp J (Zb (kq (Zr (Yx J J ?_)))))))))))))
  exact ⟨rfl, g⟩
theorem Qve (c : Int) (w : World) : Ret PP Ykb #[.int .u8 c] w fun v w' => v = .bool (letterB c || digitB c) ∧ G w w' := by
  have g := G.refl w
  refine Yp (m := 9) Jla J J [(0, True, _)] (Za J (Zj _)) ?_
  refine Ze (Zg (Zp J (Zb (kq (Ze (Zg (Zt J (Xk J (Zo Qaa Yo (aqc J aq0) J) (Znc _ _) (fun w4 g4 => ?_)))))))))
  have g := g.trans g4
  refine Zt J (Zn J J J (fun _ => Yl (Zk J)) (We J J J (fun _ => (Zo Jma Yo (Xf (Zq J id) (Xw)) J)) (fun hc => Udc _ _) (fun w7 g7 => ?_)))
  have g := g.trans g7
  refine Yi J (fun _ => Xh (Zk J) (Zq J id)) (Zp J (Zb (kq (Zr (Yx J J ?_)))))
  exact ⟨rfl, g⟩
def kws : List (List UInt8) := [[116, 121, 112, 101], [115, 116, 114, 117, 99, 116], [118, 97, 114], [102, 117, 110, 99], [105, 102], [101, 108, 115, 101], [102, 111, 114], [114, 101, 116, 117, 114, 110], [103, 111], [100, 101, 102, 101, 114], [115, 101, 108, 101, 99, 116], [99, 97, 115, 101], [100, 101, 102, 97, 117, 108, 116], [99, 104, 97, 110], [110, 101, 119], [109, 97, 107, 101], [108, 101, 110], [116, 114, 117, 101], [102, 97, 108, 115, 101], [110, 105, 108], [112, 114, 105, 110, 116], [99, 108, 111, 115, 101], [105, 110, 116], [98, 111, 111, 108], [109, 117, 116, 101, 120], [114, 119, 109, 117, 116, 101, 120], [103, 114, 111, 117, 112], [111, 110, 99, 101], [97, 116, 111, 109, 105, 99]]
def endw : List (List UInt8) := [[116, 114, 117, 101], [102, 97, 108, 115, 101], [110, 105, 108], [114, 101, 116, 117, 114, 110], [105, 110, 116], [98, 111, 111, 108], [109, 117, 116, 101, 120], [114, 119, 109, 117, 116, 101, 120], [103, 114, 111, 117, 112], [111, 110, 99, 101], [97, 116, 111, 109, 105, 99], [41], [93], [125]]
def inB (l : List (List UInt8)) (s : List UInt8) : Bool := l.any fun k => decide (s = k)
theorem Zae (s : List UInt8) (w : World) : Ret PP Xoc #[Str s] w fun v w' => v = .bool (inB kws s) ∧ G w w' := by
  have g := G.refl w
  refine Yp (m := 34) Jib J J [(0, True, _)] (Za J (Zj _)) ?_
  refine Ze (Zg (Zp J (Zb (kq (Ze (Ze (Zg (Zt J (Zb (kq (Yu (Ze (Ze (Zg (Wi J J (Zp J (Zb (kq (?_)))))))))))))))))))
  refine' Xi [(2, _, _)] (Za J (Za J (Zj _))) J (fun hb1 => ?y1) (kq ?n1)
  case y1 =>
   refine Ze (Zg (Wi J J (Zp J (Zb (kq (?_))))))
   refine' Xi [(2, _, _)] (Za J (Za J (Zj _))) J (fun hb2 => ?y2) knr
   case y2 =>
    refine Ze (Zg (Wi J J (Zp J (Zb (kq (?_))))))
    refine' Xi [(2, _, _)] (Za J (Za J (Zj _))) J (fun hb3 => ?y3) knr
    case y3 =>
     refine Ze (Zg (Wi J J (Zp J (Zb (kq (?_))))))
     refine' Xi [(2, _, _)] (Za J (Za J (Zj _))) J (fun hb4 => ?y4) knr
     case y4 =>
      refine Ze (Zg (Wi J J (Zp J (Zb (kq (?_))))))
      refine' Xi [(2, _, _)] (Za J (Za J (Zj _))) J (fun hb5 => ?y5) knr
      case y5 =>
       refine Ze (Zg (Wi J J (Zp J (Zb (kq (?_))))))
       refine' Xi [(2, _, _)] (Za J (Za J (Zj _))) J (fun hb6 => ?y6) knr
       case y6 =>
        refine Ze (Zg (Wi J J (Zp J (Zb (kq (?_))))))
        refine' Xi [(2, _, _)] (Za J (Za J (Zj _))) J (fun hb7 => ?y7) knr
        case y7 =>
         refine Ze (Zg (Wi J J (Zp J (Zb (kq (?_))))))
         refine' Xi [(2, _, _)] (Za J (Za J (Zj _))) J (fun hb8 => ?y8) knr
         case y8 =>
          refine Ze (Zg (Wi J J (Zp J (Zb (kq (?_))))))
          refine' Xi [(2, _, _)] (Za J (Za J (Zj _))) J (fun hb9 => ?y9) knr
          case y9 =>
           refine Ze (Zg (Wi J J (Zp J (Zb (kq (?_))))))
           refine' Xi [(2, _, _)] (Za J (Za J (Zj _))) J (fun hb10 => ?y10) knr
           case y10 =>
            refine Ze (Zg (Wi J J (Zp J (Zb (kq (?_))))))
            refine' Xi [(2, _, _)] (Za J (Za J (Zj _))) J (fun hb11 => ?y11) knr
            case y11 =>
             refine Ze (Zg (Wi J J (Zp J (Zb (kq (?_))))))
             refine' Xi [(2, _, _)] (Za J (Za J (Zj _))) J (fun hb12 => ?y12) knr
             case y12 =>
              refine Ze (Zg (Wi J J (Zp J (Zb (kq (?_))))))
              refine' Xi [(2, _, _)] (Za J (Za J (Zj _))) J (fun hb13 => ?y13) knr
              case y13 =>
               refine Ze (Zg (Wi J J (Zp J (Zb (kq (?_))))))
               refine' Xi [(2, _, _)] (Za J (Za J (Zj _))) J (fun hb14 => ?y14) knr
               case y14 =>
                refine Ze (Zg (Wi J J (Zp J (Zb (kq (?_))))))
                refine' Xi [(2, _, _)] (Za J (Za J (Zj _))) J (fun hb15 => ?y15) knr
                case y15 =>
                 refine Ze (Zg (Wi J J (Zp J (Zb (kq (?_))))))
                 refine' Xi [(2, _, _)] (Za J (Za J (Zj _))) J (fun hb16 => ?y16) knr
                 case y16 =>
                  refine Ze (Zg (Wi J J (Zp J (Zb (kq (?_))))))
                  refine' Xi [(2, _, _)] (Za J (Za J (Zj _))) J (fun hb17 => ?y17) knr
                  case y17 =>
                   refine Ze (Zg (Wi J J (Zp J (Zb (kq (?_))))))
                   refine' Xi [(2, _, _)] (Za J (Za J (Zj _))) J (fun hb18 => ?y18) knr
                   case y18 =>
                    refine Ze (Zg (Wi J J (Zp J (Zb (kq (?_))))))
                    refine' Xi [(2, _, _)] (Za J (Za J (Zj _))) J (fun hb19 => ?y19) knr
                    case y19 =>
                     refine Ze (Zg (Wi J J (Zp J (Zb (kq (?_))))))
                     refine' Xi [(2, _, _)] (Za J (Za J (Zj _))) J (fun hb20 => ?y20) knr
                     case y20 =>
                      refine Ze (Zg (Wi J J (Zp J (Zb (kq (?_))))))
                      refine' Xi [(2, _, _)] (Za J (Za J (Zj _))) J (fun hb21 => ?y21) knr
                      case y21 =>
                       refine Ze (Zg (Wi J J (Zp J (Zb (kq (?_))))))
                       refine' Xi [(2, _, _)] (Za J (Za J (Zj _))) J (fun hb22 => ?y22) knr
                       case y22 =>
                        refine Ze (Zg (Wi J J (Zp J (Zb (kq (?_))))))
                        refine' Xi [(2, _, _)] (Za J (Za J (Zj _))) J (fun hb23 => ?y23) knr
                        case y23 =>
                         refine Ze (Zg (Wi J J (Zp J (Zb (kq (?_))))))
                         refine' Xi [(2, _, _)] (Za J (Za J (Zj _))) J (fun hb24 => ?y24) knr
                         case y24 =>
                          refine Ze (Zg (Wi J J (Zp J (Zb (kq (?_))))))
                          refine' Xi [(2, _, _)] (Za J (Za J (Zj _))) J (fun hb25 => ?y25) knr
                          case y25 =>
                           refine Ze (Zg (Wi J J (Zp J (Zb (kq (?_))))))
                           refine' Xi [(2, _, _)] (Za J (Za J (Zj _))) J (fun hb26 => ?y26) knr
                           case y26 =>
                            refine Ze (Zg (Wi J J (Zp J (Zb (kq (?_))))))
                            refine' Xi [(2, _, _)] (Za J (Za J (Zj _))) J (fun hb27 => ?y27) knr
                            case y27 =>
                             refine Ze (Zg (Wi J J (Zp J (Zb (kq (?_))))))
                             refine' Xi [(2, _, _)] (Za J (Za J (Zj _))) J (fun hb28 => ?y28) knr
                             case y28 =>
                              refine Zg (Wi J J (Zp J (Wh [(4, _, _), (2, _, _)] (Za J (Za J (Zj _))) (?_))))
                              exact Zb knr
  case n1 =>
   refine Yv J (fun h29 => ?_) (fun h29 => ?_)
   · (try simp only [Xq] at h29)
     refine Ze (Zg (Zp J (Zb (kq (Zr (Yx J J ?_))))))
     refine ⟨?_, g⟩; simp only [inB, kws, List.any_cons, List.any_nil, Bool.or_false]; rw [h29]
   refine Yc (kq (Ze (Zg (Zp J (Zb (kq (Zr (Yx J J ?_))))))))
   refine ⟨?_, g⟩; simp only [inB, kws, List.any_cons, List.any_nil, Bool.or_false]; rw [h29]
theorem Vfe (s : List UInt8) (w : World) : Ret PP Vzc #[Str s] w fun v w' => v = .bool (inB endw s) ∧ G w w' := by
  have g := G.refl w
  refine Yp (m := 19) Zjc J J [(0, True, _)] (Za J (Zj _)) ?_
  refine Ze (Zg (Zp J (Zb (kq (Ze (Ze (Zg (Zt J (Zb (kq (Yu (Ze (Ze (Zg (Wi J J (Zp J (Zb (kq (?_)))))))))))))))))))
  refine' Xi [(2, _, _)] (Za J (Za J (Zj _))) J (fun hb1 => ?y1) (kq ?n1)
  case y1 =>
   refine Ze (Zg (Wi J J (Zp J (Zb (kq (?_))))))
   refine' Xi [(2, _, _)] (Za J (Za J (Zj _))) J (fun hb2 => ?y2) knr
   case y2 =>
    refine Ze (Zg (Wi J J (Zp J (Zb (kq (?_))))))
    refine' Xi [(2, _, _)] (Za J (Za J (Zj _))) J (fun hb3 => ?y3) knr
    case y3 =>
     refine Ze (Zg (Wi J J (Zp J (Zb (kq (?_))))))
     refine' Xi [(2, _, _)] (Za J (Za J (Zj _))) J (fun hb4 => ?y4) knr
     case y4 =>
      refine Ze (Zg (Wi J J (Zp J (Zb (kq (?_))))))
      refine' Xi [(2, _, _)] (Za J (Za J (Zj _))) J (fun hb5 => ?y5) knr
      case y5 =>
       refine Ze (Zg (Wi J J (Zp J (Zb (kq (?_))))))
       refine' Xi [(2, _, _)] (Za J (Za J (Zj _))) J (fun hb6 => ?y6) knr
       case y6 =>
        refine Ze (Zg (Wi J J (Zp J (Zb (kq (?_))))))
        refine' Xi [(2, _, _)] (Za J (Za J (Zj _))) J (fun hb7 => ?y7) knr
        case y7 =>
         refine Ze (Zg (Wi J J (Zp J (Zb (kq (?_))))))
         refine' Xi [(2, _, _)] (Za J (Za J (Zj _))) J (fun hb8 => ?y8) knr
         case y8 =>
          refine Ze (Zg (Wi J J (Zp J (Zb (kq (?_))))))
          refine' Xi [(2, _, _)] (Za J (Za J (Zj _))) J (fun hb9 => ?y9) knr
          case y9 =>
           refine Ze (Zg (Wi J J (Zp J (Zb (kq (?_))))))
           refine' Xi [(2, _, _)] (Za J (Za J (Zj _))) J (fun hb10 => ?y10) knr
           case y10 =>
            refine Ze (Zg (Wi J J (Zp J (Zb (kq (?_))))))
            refine' Xi [(2, _, _)] (Za J (Za J (Zj _))) J (fun hb11 => ?y11) knr
            case y11 =>
             refine Ze (Zg (Wi J J (Zp J (Zb (kq (?_))))))
             refine' Xi [(2, _, _)] (Za J (Za J (Zj _))) J (fun hb12 => ?y12) knr
             case y12 =>
              refine Ze (Zg (Wi J J (Zp J (Zb (kq (?_))))))
              refine' Xi [(2, _, _)] (Za J (Za J (Zj _))) J (fun hb13 => ?y13) knr
              case y13 =>
               refine Zg (Wi J J (Zp J (Wh [(4, _, _), (2, _, _)] (Za J (Za J (Zj _))) (?_))))
               exact Zb knr
  case n1 =>
   refine Yv J (fun h14 => ?_) (fun h14 => ?_)
   · (try simp only [Xq] at h14)
     refine Ze (Zg (Zp J (Zb (kq (Zr (Yx J J ?_))))))
     refine ⟨?_, g⟩; simp only [inB, endw, List.any_cons, List.any_nil, Bool.or_false]; rw [h14]
   refine Yc (kq (Ze (Zg (Zp J (Zb (kq (Zr (Yx J J ?_))))))))
   refine ⟨?_, g⟩; simp only [inB, endw, List.any_cons, List.any_nil, Bool.or_false]; rw [h14]
theorem Vwd (s : List UInt8) (w : World) : Ret PP Vrc #[Str s] w fun v w' => v = .bool (inB kws s) ∧ G w w' := by
  have g := G.refl w
  refine Yp (m := 34) Zdc J J [(0, True, _)] (Za J (Zj _)) ?_
  refine Ze (Zg (Zp J (Zb (kq (Ze (Ze (Zg (Zt J (Zb (kq (Yu (Ze (Ze (Zg (Wi J J (Zp J (Zb (kq (?_)))))))))))))))))))
  refine' Xi [(2, _, _)] (Za J (Za J (Zj _))) J (fun hb1 => ?y1) (kq ?n1)
  case y1 =>
   refine Ze (Zg (Wi J J (Zp J (Zb (kq (?_))))))
   refine' Xi [(2, _, _)] (Za J (Za J (Zj _))) J (fun hb2 => ?y2) knr
   case y2 =>
    refine Ze (Zg (Wi J J (Zp J (Zb (kq (?_))))))
    refine' Xi [(2, _, _)] (Za J (Za J (Zj _))) J (fun hb3 => ?y3) knr
    case y3 =>
     refine Ze (Zg (Wi J J (Zp J (Zb (kq (?_))))))
     refine' Xi [(2, _, _)] (Za J (Za J (Zj _))) J (fun hb4 => ?y4) knr
     case y4 =>
      refine Ze (Zg (Wi J J (Zp J (Zb (kq (?_))))))
      refine' Xi [(2, _, _)] (Za J (Za J (Zj _))) J (fun hb5 => ?y5) knr
      case y5 =>
       refine Ze (Zg (Wi J J (Zp J (Zb (kq (?_))))))
       refine' Xi [(2, _, _)] (Za J (Za J (Zj _))) J (fun hb6 => ?y6) knr
       case y6 =>
        refine Ze (Zg (Wi J J (Zp J (Zb (kq (?_))))))
        refine' Xi [(2, _, _)] (Za J (Za J (Zj _))) J (fun hb7 => ?y7) knr
        case y7 =>
         refine Ze (Zg (Wi J J (Zp J (Zb (kq (?_))))))
         refine' Xi [(2, _, _)] (Za J (Za J (Zj _))) J (fun hb8 => ?y8) knr
         case y8 =>
          refine Ze (Zg (Wi J J (Zp J (Zb (kq (?_))))))
          refine' Xi [(2, _, _)] (Za J (Za J (Zj _))) J (fun hb9 => ?y9) knr
          case y9 =>
           refine Ze (Zg (Wi J J (Zp J (Zb (kq (?_))))))
           refine' Xi [(2, _, _)] (Za J (Za J (Zj _))) J (fun hb10 => ?y10) knr
           case y10 =>
            refine Ze (Zg (Wi J J (Zp J (Zb (kq (?_))))))
            refine' Xi [(2, _, _)] (Za J (Za J (Zj _))) J (fun hb11 => ?y11) knr
            case y11 =>
             refine Ze (Zg (Wi J J (Zp J (Zb (kq (?_))))))
             refine' Xi [(2, _, _)] (Za J (Za J (Zj _))) J (fun hb12 => ?y12) knr
             case y12 =>
              refine Ze (Zg (Wi J J (Zp J (Zb (kq (?_))))))
              refine' Xi [(2, _, _)] (Za J (Za J (Zj _))) J (fun hb13 => ?y13) knr
              case y13 =>
               refine Ze (Zg (Wi J J (Zp J (Zb (kq (?_))))))
               refine' Xi [(2, _, _)] (Za J (Za J (Zj _))) J (fun hb14 => ?y14) knr
               case y14 =>
                refine Ze (Zg (Wi J J (Zp J (Zb (kq (?_))))))
                refine' Xi [(2, _, _)] (Za J (Za J (Zj _))) J (fun hb15 => ?y15) knr
                case y15 =>
                 refine Ze (Zg (Wi J J (Zp J (Zb (kq (?_))))))
                 refine' Xi [(2, _, _)] (Za J (Za J (Zj _))) J (fun hb16 => ?y16) knr
                 case y16 =>
                  refine Ze (Zg (Wi J J (Zp J (Zb (kq (?_))))))
                  refine' Xi [(2, _, _)] (Za J (Za J (Zj _))) J (fun hb17 => ?y17) knr
                  case y17 =>
                   refine Ze (Zg (Wi J J (Zp J (Zb (kq (?_))))))
                   refine' Xi [(2, _, _)] (Za J (Za J (Zj _))) J (fun hb18 => ?y18) knr
                   case y18 =>
                    refine Ze (Zg (Wi J J (Zp J (Zb (kq (?_))))))
                    refine' Xi [(2, _, _)] (Za J (Za J (Zj _))) J (fun hb19 => ?y19) knr
                    case y19 =>
                     refine Ze (Zg (Wi J J (Zp J (Zb (kq (?_))))))
                     refine' Xi [(2, _, _)] (Za J (Za J (Zj _))) J (fun hb20 => ?y20) knr
                     case y20 =>
                      refine Ze (Zg (Wi J J (Zp J (Zb (kq (?_))))))
                      refine' Xi [(2, _, _)] (Za J (Za J (Zj _))) J (fun hb21 => ?y21) knr
                      case y21 =>
                       refine Ze (Zg (Wi J J (Zp J (Zb (kq (?_))))))
                       refine' Xi [(2, _, _)] (Za J (Za J (Zj _))) J (fun hb22 => ?y22) knr
                       case y22 =>
                        refine Ze (Zg (Wi J J (Zp J (Zb (kq (?_))))))
                        refine' Xi [(2, _, _)] (Za J (Za J (Zj _))) J (fun hb23 => ?y23) knr
                        case y23 =>
                         refine Ze (Zg (Wi J J (Zp J (Zb (kq (?_))))))
                         refine' Xi [(2, _, _)] (Za J (Za J (Zj _))) J (fun hb24 => ?y24) knr
                         case y24 =>
                          refine Ze (Zg (Wi J J (Zp J (Zb (kq (?_))))))
                          refine' Xi [(2, _, _)] (Za J (Za J (Zj _))) J (fun hb25 => ?y25) knr
                          case y25 =>
                           refine Ze (Zg (Wi J J (Zp J (Zb (kq (?_))))))
                           refine' Xi [(2, _, _)] (Za J (Za J (Zj _))) J (fun hb26 => ?y26) knr
                           case y26 =>
                            refine Ze (Zg (Wi J J (Zp J (Zb (kq (?_))))))
                            refine' Xi [(2, _, _)] (Za J (Za J (Zj _))) J (fun hb27 => ?y27) knr
                            case y27 =>
                             refine Ze (Zg (Wi J J (Zp J (Zb (kq (?_))))))
                             refine' Xi [(2, _, _)] (Za J (Za J (Zj _))) J (fun hb28 => ?y28) knr
                             case y28 =>
                              refine Zg (Wi J J (Zp J (Wh [(4, _, _), (2, _, _)] (Za J (Za J (Zj _))) (?_))))
                              exact Zb knr
  case n1 =>
   refine Yv J (fun h29 => ?_) (fun h29 => ?_)
   · (try simp only [Xq] at h29)
     refine Ze (Zg (Zp J (Zb (kq (Zr (Yx J J ?_))))))
     refine ⟨?_, g⟩; simp only [inB, kws, List.any_cons, List.any_nil, Bool.or_false]; rw [h29]
   refine Yc (kq (Ze (Zg (Zp J (Zb (kq (Zr (Yx J J ?_))))))))
   refine ⟨?_, g⟩; simp only [inB, kws, List.any_cons, List.any_nil, Bool.or_false]; rw [h29]
end Go.Rk
namespace Go.Rk
open Go.Proofs
open Go Go.RowKit
def preB (p s : List UInt8) : Bool := decide (p.length ≤ s.length) && decide (s.take p.length = p)
theorem Xnd (s p : List UInt8) (w : World) : Ret PP Wka #[Str s, Str p] w fun v w' => v = .bool (preB p s) ∧ G w w' := by
 have g := G.refl w
 refine Yp (m := 18) Xva J J [(0, True, _), (1, True, _)] (Za J (Za J (Zj _))) ?_
 refine Ze (Zg (Zp J (Zb (kq (Ze (Zg (Zt J (Yi J (fun _ => Vha Ue (Zk J)) (Zt J (Yi J (fun _ => Vha Ue (Zk J)) (Xsb J J (Zt J (Zn J J J (fun _ => Yl (Zk J)) (Zn J J J (fun _ => Yl (Zk J)) (Zn J J J (fun _ => Vha Ue (Zq J id)) (Zn J J J (fun _ => Wse Ue (Zq J id) (Zq J id) (fun hc => ⟨by omega, by have := of_decide_eq_true hc.2; omega⟩)) (?_)))))))))))))))))
 refine Zn J J J (fun _ => Yl (Zk J)) (Zn J J J (fun _ => Yya (Zq J id) (Zq J id)) (Yi J (fun _ => Zz (Zk J) (Zq J id)) (Zp J (Zb (kq (Zr (Yx J J ?_)))))))
 refine ⟨?_, g⟩; unfold preB; simp
theorem Urb (s p : List UInt8) (w : World) : Ret PP Wcb #[Str s, Str p] w fun v w' => v = .bool (preB p s) ∧ G w w' := by
 have g := G.refl w
 refine Yp (m := 8) Yhb J J [(0, True, _), (1, True, _)] (Za J (Za J (Zj _))) ?_
 refine Ze (Zg (Zp J (Zb (kq (Ze (Zg (Zt J (Zt J (Xk J (Zo Wla Yo (aqc J (aqc J aq0)) J) (Xnd _ _ _) (fun w7 g7 => ?_))))))))))
 have g := g.trans g7
 refine Zp J (Zb (kq (Zr (Yx J J ?_))))
 exact ⟨rfl, g⟩

structure Tok where
 kind : Int
 text : List UInt8
 pos : Int
def tokCells (t : Tok) : List Value := [.int .i64 t.kind, Str t.text, .int .i64 t.pos]
def toksCells (l : List Tok) : List Value := l.flatMap tokCells
theorem Zib (l : List Tok) : (toksCells l).length = l.length * 3 := by
 unfold toksCells
 induction l with
 | nil => rfl
 | cons t l ih => rw [List.flatMap_cons, List.length_append, ih]; simp [tokCells]; omega
theorem Wpa (l : List Tok) (t : Tok) : toksCells (l ++ [t]) = toksCells l ++ tokCells t := by simp [toksCells]
def Scn (base b : Nat) (s : List UInt8) (p : Nat) (ts cs : List Tok) (w : World) : Prop :=
 ∃ ta tc ca cc, Blk w b Yoa [Str s, .int .i64 p, .slice ta ts.length tc, .slice ca cs.length cc] ∧ base ≤ b ∧ w.ownsRow base Yha 3 (.slice ta ts.length tc) ts.length (toksCells ts) ∧
  w.ownsRow base Yha 3 (.slice ca cs.length cc) cs.length (toksCells cs) ∧ (Value.slice ta ts.length tc).ownBlock ≠ some b ∧ (Value.slice ca cs.length cc).ownBlock ≠ some b ∧
  (∀ k, (Value.slice ta ts.length tc).ownBlock = some k → (Value.slice ca cs.length cc).ownBlock ≠ some k) ∧ ts.length ≤ p ∧ cs.length ≤ p ∧ p ≤ s.length ∧ s.length ≤ 20000

theorem Yob {w : World} {base : Nat} {e : TypeId} {z : Nat} {tv tv' cv : Value} {m : Nat} {xs : List Value} (hc : w.ownsRow base e z cv m xs) (n3 : ∀ k, tv.ownBlock = some k → cv.ownBlock ≠ some k)
  (hat : tv'.ownBlock = tv.ownBlock ∨ tv'.ownBlock = some w.heap.size) : ∀ k, tv'.ownBlock = some k → cv.ownBlock ≠ some k := by
 intro k hk
 rcases hat with e | e
 ·exact n3 k (e ▸ hk)
 ·rw [e] at hk; injection hk with hk; subst hk; exact Qyf hc (Nat.le_refl _)
theorem Zoc {w : World} {b : Nat} {tv tv' : Value} (hb : b < w.heap.size) (n1 : tv.ownBlock ≠ some b) (hat : tv'.ownBlock = tv.ownBlock ∨ tv'.ownBlock = some w.heap.size) : tv'.ownBlock ≠ some b := by
 rcases hat with e | e <;> rw [e]
 ·exact n1
 ·intro h; injection h with h; omega
theorem Zpc {w w' : World} {base : Nat} {e : TypeId} {z : Nat} {tv cv : Value} {m : Nat} {xs : List Value} (hc : w.ownsRow base e z cv m xs) (n3 : ∀ k, tv.ownBlock = some k → cv.ownBlock ≠ some k) (hg : w.grownBy w' tv.ownBlock) : w'.ownsRow base e z cv m xs :=
 Vy hc hg (by rcases hq : cv.ownBlock with _ | k; exact .inl rfl; exact .inr (fun he => n3 k he.symm hq))

theorem Xod (base b : Nat) (s : List UInt8) (p : Nat) (ts cs : List Tok) (kind : Int) (size : Nat) (w : World) (hs : Scn base b s p ts cs w) (h1 : 1 ≤ size) (h2 : p + size ≤ s.length) :
  Ret PP Uab #[.pointer (some ⟨b, 0, none⟩), .int .i64 kind, .int .i64 size] w fun v w' => v = .tuple #[] ∧ Scn base b s (p + size) (ts ++ [⟨kind, (s.drop p).take size, p⟩]) cs w' ∧ Below base w w' := by
 obtain ⟨ta, tc, ca, cc, hB, hb0, ht, hc, n1, n2, n3, k1, k2, k3, k4⟩ := hs
 have hb : Below base w w := Below.refl _ _
 have hlt := hB.lt
 refine Yp (m := 44) Xmb J J [(0, True, _), (1, True, _), (2, True, _)] (Za J (Za J (Za J (Zj _)))) ?_
 refine Ze (Wr [3, 3, 3, 3, 0, 3, 3, 3, 3, 0, 3, 3, 3, 0, 3, 3, 3, 0, 3, 3, 3, 3, 3, 3, 0, 3, 1, 2, 3, 3, 2] [true, true, true, true, true, true, true, true, true, true, true, true, true, true, true, true, true, true, true, true, true, true, true, true, true, true, true, true, true, true, true] [0, 0, 2, 6, 14, 0, 0, 64, 192, 448, 0, 1024, 3072, 7168, 0, 16384, 49152, 114688, 0, 507904, 1048512, 0, 2097152, 6291456, 14680064, 33554400, 67108832, 134217726, 268435455, 536870911, 1073741823] mix (by kernel_rfl) ?_)
 have hb := hb.drew
 have hB : Blk w.drew _ _ _ := hB
 have ht := Vbd ht
 have hc := Vbd hc
 refine Zt J (Zt J (Ui J (Zx Jg J (Yg Zda J (hB.at_ J) (Zt J (Zt J (Ui J (Zx Um J (Yg Yr J (hB.at_ J) (Zt J (Ui J (Zx Xn J (Yg Zu J (hB.at_ J) (Zt J (Ui J (?_))))))))))))))))
 refine Zx Xn J (Yg Zu J (hB.at_ J) (Zt J (Qv J J (by omega) (Yi J (fun _ => Yjd Ue (Zk J) (Zk J) (Zk J) (fun _ => by omega)) (Zt J (Ui J (Zx Xn J (Yg Zu J (hB.at_ J) (Uc Jq Ymb (pqc J (pqc J (pqc J pq0))) J J (Yb _ J Qe Jq (pqc J pq0) J J ?_))))))))))
 intro b32 w32 N32
 have hb := hb.trans (Xca N32.g (by show base ≤ w.heap.size; omega))
 have hB := hB.grow N32.g
 have ht := Us ht N32.g
 have hc := Us hc N32.g
 have hlt := hB.lt
 have E := (Wo _).new N32
 refine Ysa J Qe Jq J (by decide) (Zk J) ht (Zk J) J N32.blk.row J (by simp only [maxLen]; omega) (by omega) (by omega) ?_
 intro ta' tc' w33 ht' hg hat
 have hb := Zsa hb hg (by omega) (fun k hk => (ht.lt k hk).1)
 have hB := hB.keep hg (Ne.symm n1)
 have n3' := Yob hc n3 hat
 have hc := Zpc hc n3 hg
 have n3 := n3'
 have n1 := Zoc hlt n1 hat
 refine Ui J (Zx Jg J (Ww J Vva (Zk J) (Zk J) J J hB J J ?_))
 intro w34 hg2 hz2 hB
 have hb := Zsa hb hg2 (by have := hb.size; omega) (fun k hk => by injection hk with hk; omega)
 have ht' := Vy ht' hg2 (.inr n1)
 have hc := Vy hc hg2 (.inr n2)
 refine Zb (kq (Zg (Zt J (Ui J (Zx Xn J (Yg Zu J (hB.at_ J) (Zt J (Qv J J (by omega) (Ui J (Zx Xn J (Ww J Vb (Zk J) (Zk J) J J hB J J ?_)))))))))))
 intro w44 hg3 hz3 hB
 have hb := Zsa hb hg3 (by have := hb.size; omega) (fun k hk => by injection hk with hk; omega)
 have ht' := Vy ht' hg3 (.inr n1)
 have hc := Vy hc hg3 (.inr n2)
 refine Zb (Xra J ?_)
 have e : ((p : Int) + size).toNat - (p : Int).toNat = size := by omega
 rw [e] at ht'
 have hl : (ts ++ [(⟨kind, (s.drop p).take size, p⟩ : Tok)]).length = ts.length + 1 := by simp
 refine ⟨rfl, ⟨ta', tc', ca, cc, ?_, hb0, ?_, hc, ?_, n2, ?_, ?_, by omega, h2, k4⟩, hb⟩ <;> rw [hl]
 ·exact hB
 ·rw [Wpa]; exact ht'
 ·exact n1
 ·exact n3
 ·omega
end Go.Rk
