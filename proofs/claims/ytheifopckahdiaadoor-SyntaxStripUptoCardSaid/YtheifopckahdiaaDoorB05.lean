/- Merged texts of one road: Rng2, BldP, Rng, Open, Fn, SynA. Conditions: each text's own. -/
import Derived.Test.YtheifopckahdiaaDoorB04
import Derived.Test.YtheifopckahdiaaDoorB02
import Derived.Test.YtheifopckahdiaaDoorRows
import Derived.Test.YtheifopckahdiaaDoorCards
import Derived.Deep.Slices
import Derived.Carry
set_option linter.unusedSimpArgs false
set_option linter.unusedVariables false
namespace Go.Rk
open Go Go.RowKit
set_option linter.unusedVariables false
/-! what a round may write; what lies between two rounds -/
/-- Growth but for the blocks of B. -/
structure GB (B : Nat → Prop) (w w' : World) : Prop where
  os : w'.os = w.os
  tape : w'.tape = w.tape
  output : w'.output = w.output
  size : w.heap.size ≤ w'.heap.size
  block : ∀ k, k < w.heap.size → ¬ B k → w'.heap[k]? = w.heap[k]?
theorem GB.refl (B : Nat → Prop) (w : World) : GB B w w := ⟨rfl, rfl, rfl, Nat.le_refl _, fun _ _ _ => rfl⟩
theorem GB.trans {B : Nat → Prop} {a b c : World} (h : GB B a b) (k : GB B b c) : GB B a c :=
  ⟨k.os.trans h.os, k.tape.trans h.tape, k.output.trans h.output, Nat.le_trans h.size k.size, fun i hi hn => (k.block i (Nat.lt_of_lt_of_le hi h.size) hn).trans (h.block i hi hn)⟩
theorem GB.mono {B B' : Nat → Prop} {w w' : World} (h : GB B w w') (hB : ∀ k, k < w.heap.size → B k → B' k) : GB B' w w' := ⟨h.os, h.tape, h.output, h.size, fun k hk hn => h.block k hk fun hb => hn (hB k hk hb)⟩
theorem GB.of_g {B : Nat → Prop} {w w' : World} (h : G w w') : GB B w w' := ⟨h.os, h.tape, h.output, h.size, fun k hk _ => h.block hk⟩
theorem GB.g {B : Nat → Prop} {w w' : World} (h : GB B w w') (hB : ∀ k, B k → w.heap.size ≤ k) : G w w' := ⟨h.os, h.tape, h.output, h.size, fun k hk => h.block k hk fun hb => by have := hB k hb; omega⟩
theorem g_gb {B : Nat → Prop} {w0 w w' : World} (g : G w0 w) (h : GB B w w') (hB : ∀ k, B k → w0.heap.size ≤ k) : G w0 w' :=
  ⟨h.os.trans g.os, h.tape.trans g.tape, h.output.trans g.output, Nat.le_trans g.size h.size, fun k hk => (h.block k (Nat.lt_of_lt_of_le hk g.size) fun hb => by have := hB k hb; omega).trans (g.block hk)⟩
theorem gb_only {B : Nat → Prop} {w0 w w' : World} {b : Nat} (h : GB B w0 w) (hg : w.grownBy w' (some b)) (hb : B b ∨ w0.heap.size ≤ b) : GB B w0 w' :=
  ⟨hg.os.trans h.os, hg.tape.trans h.tape, hg.output.trans h.output, Nat.le_trans h.size hg.size, fun k hk hn => (hg.block k (Nat.lt_of_lt_of_le hk h.size) (fun e => by
    injection e with e; subst e
    rcases hb with hb | hb
    · exact hn hb
    · omega)).trans (h.block k hk hn)⟩
theorem newge {a w w1 : World} {b : Nat} {e : TypeId} {l : List Value} (h : New w w1 b e l) (g : a.heap.size ≤ w.heap.size) : a.heap.size ≤ b := by have := h.at_; omega
/-- Nothing older than n changes, and no cells. -/
structure GI (n : Nat) (w w' : World) : Prop where
  below : Below n w w'
  cells : ∀ (k : Nat) (o : Obj), w.heap[k]? = some o → o.isCells = true → w'.heap[k]? = some o
theorem GI.refl (n : Nat) (w : World) : GI n w w := ⟨Below.refl _ _, fun _ _ h _ => h⟩
theorem GI.trans {n : Nat} {a b c : World} (h : GI n a b) (k : GI n b c) : GI n a c := ⟨h.below.trans k.below, fun i o hi hc => k.cells i o (h.cells i o hi hc) hc⟩
theorem GI.of_g {n : Nat} {a b : World} (h : G a b) (hn : n ≤ a.heap.size) : GI n a b := ⟨Below.mono h hn, fun k o hk _ => (h.block (Array.getElem?_eq_some_iff.1 hk).1).trans hk⟩
theorem GI.mono {n m : Nat} {a b : World} (h : GI n a b) (hm : m ≤ n) : GI m a b := ⟨h.below.mono hm, h.cells⟩
theorem GI.size {n : Nat} {a b : World} (h : GI n a b) : a.heap.size ≤ b.heap.size := h.below.size
theorem gi_putObj {n : Nat} {w : World} {l : Nat} {o : Obj} (o' : Obj) (hl : w.heap[l]? = some o) (ho : o.isCells = false) (hn : n ≤ l) : GI n w (w.putObj l o') :=
  ⟨⟨rfl, rfl, rfl, by simp, fun k hk => World.putObj_heap_other (by omega)⟩, fun k o2 hk hc => by
    by_cases e : k = l
    · subst e; rw [hl] at hk; injection hk with hk; subst hk; rw [ho] at hc; cases hc
    · exact (World.putObj_heap_other e).trans hk⟩
theorem g_gi {w0 w w' : World} {n : Nat} (g : G w0 w) (h : GI n w w') (hn : w0.heap.size ≤ n) : G w0 w' := Below.trans g (h.below.mono hn)
theorem Blk.gi {w w' : World} {n b : Nat} {e : TypeId} {l : List Value} (h : Blk w b e l) (g : GI n w w') : Blk w' b e l := g.cells b _ h rfl
theorem cell_gi {w w' : World} {n : Nat} {a : Addr} {v : Value} (h : w.cell? a = some v) (g : GI n w w') : w'.cell? a = some v := by
  obtain ⟨o, ho, hc⟩ := cells_of_cell h
  exact (World.cell?_of_block ((g.cells _ o ho hc).trans ho.symm)).trans h
theorem RowAt.gi {w w' : World} {n b o : Nat} {l : List Value} (h : RowAt w b o l) (g : GI n w w') : RowAt w' b o l := fun j v hj => cell_gi (h j v hj) g
theorem Blk.gb {w w' : World} {B : Nat → Prop} {b : Nat} {e : TypeId} {l : List Value} (h : Blk w b e l) (g : GB B w w') (hb : ¬ B b) : Blk w' b e l := (g.block b h.lt hb).trans h
theorem RowAt.gb {w w' : World} {B : Nat → Prop} {b o : Nat} {l : List Value} (h : RowAt w b o l) (g : GB B w w') (hb : ¬ B b) : RowAt w' b o l := fun j v hj => by
  have h1 := h j v hj
  have hlt := World.block_lt_of_cell? w _ h1
  exact (World.cell?_of_block (g.block b hlt hb)).trans h1
theorem gb_below {B : Nat → Prop} {w A C : World} {m : Nat} (h : GB B w A) (g : Below m A C) (hm : w.heap.size ≤ m) : GB B w C :=
  ⟨g.os.trans h.os, g.tape.trans h.tape, g.output.trans h.output, Nat.le_trans h.size g.size, fun k hk hn => (g.block k (by omega)).trans (h.block k hk hn)⟩
theorem lookup_map {β : Type} (f : Nat → β) : ∀ (ids : List Nat) (id : Nat), (ids.map fun i => (i, f i)).lookup id = if id ∈ ids then some (f id) else none
  | [], id => rfl
  | i :: ids, id => by
    rw [List.map_cons, List.lookup_cons]
    by_cases h : id = i
    · subst h; simp
    · have : (id == i) = false := by simpa using h
      rw [this, lookup_map f ids id]
      simp [h]
/-- What an iterator does with the loop's yield: the elements of L come in their order, each as En says; Nb: what it needs of the memory. -/
def IterOk {α : Type} (P : Program) (gf : Nat) (lb : Array Value) (w : World) (Nb : Nat → Prop) (L : List α) (En : α → World → Array Value → Prop) : Prop :=
  ∀ (l : Nat) (J Jx : List α → World → Prop) (B : Nat → Prop) (W : World), G w W → (∀ k, B k → k < W.heap.size ∧ ¬ Nb k) →
    (∀ pre A C, J pre A → GI W.heap.size A C → J pre C) → (∀ pre A C, Jx pre A → GI W.heap.size A C → Jx pre C) →
    (∀ pre x args A, J pre A → pre ++ [x] <+: L → En x A args → Yld P l args A fun b A' => GB B A A' ∧ ((b = .bool true ∧ J (pre ++ [x]) A') ∨ (b = .bool false ∧ Jx (pre ++ [x]) A'))) →
    J [] W → Ret P gf (#[yldV l] ++ lb) W fun _ W' => GB B W W' ∧ (J L W' ∨ ∃ pre x, pre ++ [x] <+: L ∧ Jx (pre ++ [x]) W')
section
variable {P : Program} {n : Nat} {ds : List Deferred} {N T : DPost} {X : List (Nat × DPost)} {Z : List PanicEntry → DPost} {σ : List Ent} {w : World}
@[reducible] def NoD : DPost := fun _ _ _ => False
@[reducible] def NoZ : List PanicEntry → DPost := fun _ _ _ _ => False
/-- The statement. I: what holds between two rounds; Ix: where a round has left by a jump; Bx: the blocks that rounds write; τ: a round's frame behind the assignment. -/
theorem scd_range {α : Type} {g : Operand} {p : Tmp} {assign body : Code} {gf : Nat} {fs lb : Array Value} {Nb Bx : Nat → Prop} {L : List α} {En : α → World → Array Value → Prop}
    (hg : Ev n σ True g (.func (.func gf) #[] lb)) (hgo : goFn P gf = true) (hit : IterOk P gf lb w Nb L En) (hNb : ∀ k, Nb k → k < w.heap.size) (hBx : ∀ k, Bx k → k < w.heap.size ∧ ¬ Nb k)
    (I : List α → World → Prop) (Ix : Code → List α → World → Prop) (ids : List Nat) (hp : Nat.blt p n = true)
    (hI : ∀ pre A C, I pre A → GI w.heap.size A C → I pre C) (hIx : ∀ c pre A C, Ix c pre A → GI w.heap.size A C → Ix c pre C)
    (hEn : ∀ x A args, En x A args → ∃ v, args = #[v]) (hEg : ∀ x A C args, En x A args → GI w.heap.size A C → En x C args)
    (h0 : I [] w)
    (hround : ∀ l pre x v A, I pre A → pre ++ [x] <+: L → En x A #[v] → w.heap.size ≤ A.heap.size → ∀ K : DPost,
      (∀ τ u, G A u → (∀ C, GI w.heap.size u C → I pre C → En x C #[v] → SCD P (some l) n [] body (fun ds a A' => ds = [] ∧ GB Bx C A' ∧ I (pre ++ [x]) A')
        (ids.map fun id => (id, fun ds a A' => ds = [] ∧ GB Bx C A' ∧ Ix (.exit id) (pre ++ [x]) A')) (fun ds a A' => ds = [] ∧ GB Bx C A' ∧ Ix .ret (pre ++ [x]) A') NoZ τ C) → ∀ a, Kn n τ a → K [] a u) →
      SCD P (some l) n [] assign K [] NoD NoZ ((p, True, v) :: σ) A)
    (hdone : ∀ db W, I L W → w.heap.size ≤ db → W.heap[db]? = some (.deferred (some [])) → GB (fun k => Bx k) w W → ∀ a, Kn n σ a → N (markD db :: ds) a W)
    (hstop : ∀ db c pre x W, Ix c (pre ++ [x]) W → pre ++ [x] <+: L → w.heap.size ≤ db → W.heap[db]? = some (.deferred (some [])) → GB (fun k => Bx k) w W → SCD P none n (markD db :: ds) c N X T Z σ W) :
    SCD P none n ds (.rangeFunc g #[p] assign body) N X T Z σ w := fun a ha => by
  refine wpIn_rangeFunc (F := Fence.wide) fun fn _ => ?_
  obtain ⟨rec, hrec⟩ : ∃ rec : LoopState → Option Code → Loop, rec = fun st pe => { state := st, pending := pe, fn, tmps := (wd ds a).tmps, params := #[p], assign, body, defers := w.heap.size } := ⟨_, rfl⟩
  obtain ⟨W1, hW1⟩ : ∃ W1, (w.alloc (.deferred (some []))).alloc (.loop (rec .ready none)) = W1 := ⟨_, rfl⟩
  have g1 : G w W1 := by rw [← hW1]; exact ((Below.refl _ w).alloc (Nat.le_refl _) _).alloc (by simp) _
  have hs1 : W1.heap.size = w.heap.size + 2 := by rw [← hW1]; simp
  have hL1 : W1.heap[w.heap.size + 1]? = some (.loop (rec .ready none)) := by
    rw [← hW1]; have := World.alloc_heap_new (w.alloc (.deferred (some []))) (.loop (rec .ready none)); rwa [World.size_alloc] at this
  have hK1 : W1.heap[w.heap.size]? = some (.deferred (some [])) := by
    rw [← hW1]; exact (Below.heap_alloc _ _ _ (by simp)).trans (World.alloc_heap_new w _)
  refine ⟨w.heap.size + 1, [markD w.heap.size], W1, { target := .fn (.func gf) lb, args := #[yldV (w.heap.size + 1)] }, W1, gf, #[yldV (w.heap.size + 1)] ++ lb, W1, ?_, ?_, (fun _ _ => trivial), ?_, (fun h => by cases h), ?_⟩
  · rw [← hW1, hrec]; exact run_enterLoop_outer _ _ _ _ _
  · have hg' : (wd ds a).eval g = .func (.func gf) #[] lb := hg a ha trivial
    simp only [resolve, hg']
    simp [go_sem, yldV]
  · simp only [invoke]; exact run_goFn hgo _ _
  have hBl : ∀ k, Bx k → ¬ k = w.heap.size + 1 := fun k hk e => by have := (hBx k hk).1; omega
  have hBd : ∀ k, Bx k → ¬ k = w.heap.size := fun k hk e => by have := (hBx k hk).1; omega
  refine callsIn_wide.2 (Calls.mono (hit (w.heap.size + 1) (fun pre A => I pre A ∧ A.heap[w.heap.size + 1]? = some (.loop (rec .ready none)) ∧ A.heap[w.heap.size]? = some (.deferred (some [])) ∧ GB Bx w A)
      (fun pre A => ∃ c, Ix c pre A ∧ A.heap[w.heap.size + 1]? = some (.loop (rec .done (some c))) ∧ A.heap[w.heap.size]? = some (.deferred (some [])) ∧ GB Bx w A) (fun k => Bx k ∨ k = w.heap.size + 1) W1 g1
      (fun k hk => ?_) (fun pre A C h hg => ?_) (fun pre A C h hg => ?_) (fun pre x args A h hpre hx => ?_) ⟨hI _ _ _ h0 (GI.of_g g1 (Nat.le_refl _)), hL1, hK1, GB.of_g g1⟩) fun e W' h => ?_)
  · rcases hk with hk | rfl
    · exact ⟨by have := (hBx k hk).1; omega, (hBx k hk).2⟩
    · exact ⟨by omega, fun h => by have := hNb _ h; omega⟩
  · exact ⟨hI _ _ _ h.1 (hg.mono (by omega)), (hg.below.block _ (by omega)).trans h.2.1, (hg.below.block _ (by omega)).trans h.2.2.1, gb_below h.2.2.2 hg.below (by omega)⟩
  · obtain ⟨c, h1, h2, h3, h4⟩ := h
    exact ⟨c, hIx _ _ _ _ h1 (hg.mono (by omega)), (hg.below.block _ (by omega)).trans h2, (hg.below.block _ (by omega)).trans h3, gb_below h4 hg.below (by omega)⟩
  · -- one round
    obtain ⟨v, rfl⟩ := hEn _ _ _ hx
    obtain ⟨hi, hl, hd, hgw⟩ := h
    have hlt : w.heap.size + 1 < A.heap.size := (Array.getElem?_eq_some_iff.1 hl).1
    have hk1 : Kn n ((p, True, v) :: σ) (a.put (some p) v) := ha.put hp (fun _ => rfl) (fun h => absurd trivial h)
    have hy := run_yield (P := P) (args := #[v]) hl (by rw [hrec]; rfl)
    have hy : (Instr.yield (w.heap.size + 1) #[v]).run P A = .ok (.round (w.heap.size + 1) fn (a.put (some p) v).tmps assign body) A := by
      rw [hy, hrec]; simp [Act.put, wd]
    refine ⟨fn, _, assign, body, hy, roundIn_of_wpIn (F := Fence.wide) trivial ?_⟩
    have e1 : ({ tmps := (a.put (some p) v).tmps, defers := [] } : Act) = wd [] (a.put (some p) v) := rfl
    rw [e1]
    have hr0 := hround (w.heap.size + 1) pre x v A hi hpre hx hgw.size (fun ds a u => ds = [] ∧ ∃ τ, Kn n τ a ∧ G A u ∧ ∀ C, GI w.heap.size u C → I pre C → En x C #[v] → SCD P (some (w.heap.size + 1)) n [] body (fun ds a A' => ds = [] ∧ GB Bx C A' ∧ I (pre ++ [x]) A')
        (ids.map fun id => (id, fun ds a A' => ds = [] ∧ GB Bx C A' ∧ Ix (.exit id) (pre ++ [x]) A')) (fun ds a A' => ds = [] ∧ GB Bx C A' ∧ Ix .ret (pre ++ [x]) A') NoZ τ C) (fun τ u h1 h2 a h3 => ⟨rfl, τ, h3, h1, h2⟩) _ hk1
    refine wpIn_mono (F := WF (some (w.heap.size + 1))) hr0 (fun e a2 u q => ?_)
    cases e with
    | normal =>
      obtain ⟨q1, τ, q3, gAu, qb⟩ := q
      replace hi := hI _ _ _ hi (GI.of_g gAu hgw.size)
      replace hx := hEg _ _ _ _ hx (GI.of_g gAu hgw.size)
      replace hl := (gAu.block hlt).trans hl
      replace hd := (gAu.block (by omega)).trans hd
      have hsAu := gAu.size
      replace hgw : GB Bx w u := hgw.trans (GB.of_g gAu)
      replace hlt : w.heap.size + 1 < u.heap.size := by omega
      refine ⟨_, run_beginRound hl (by rw [hrec]), ?_⟩
      have hgi : GI w.heap.size u (u.putObj (w.heap.size + 1) (.loop { rec .ready none with state := .busy })) := gi_putObj _ hl rfl (by omega)
      have hl2 : (u.putObj (w.heap.size + 1) (.loop { rec .ready none with state := .busy })).heap[w.heap.size + 1]? = some (.loop { rec .ready none with state := .busy }) := World.putObj_heap_same hlt
      have hd2 : (u.putObj (w.heap.size + 1) (.loop { rec .ready none with state := .busy })).heap[w.heap.size]? = some (.deferred (some [])) := (World.putObj_heap_other (by omega)).trans hd
      have hb := qb _ hgi (hI _ _ _ hi hgi) (hEg _ _ _ _ hx hgi) _ q3
      have e2 : wd [] (wd [] a2) = a2 := by cases a2; cases q1; rfl
      rw [e2] at hb
      have gw : ∀ C, GB Bx (u.putObj (w.heap.size + 1) (.loop { rec .ready none with state := .busy })) C → ∀ o, GB (fun k => Bx k ∨ k = w.heap.size + 1) A (C.putObj (w.heap.size + 1) o) := fun C hC o => (GB.of_g gAu).trans
        ⟨hC.os, hC.tape, hC.output, by have := hC.size; simp at this ⊢; omega, fun k hk hn => (World.putObj_heap_other (fun e => hn (.inr e))).trans ((hC.block k (by simpa using hk) (fun h => hn (.inl h))).trans (World.putObj_heap_other (fun e => hn (.inr e))))⟩
      have gw2 : ∀ C, GB Bx (u.putObj (w.heap.size + 1) (.loop { rec .ready none with state := .busy })) C → ∀ o, GB Bx w (C.putObj (w.heap.size + 1) o) := fun C hC o =>
        ⟨hC.os.trans hgw.os, hC.tape.trans hgw.tape, hC.output.trans hgw.output, by have := hC.size; have := hgw.size; simp at *; omega, fun k hk hn => (World.putObj_heap_other (by omega)).trans ((hC.block k (by simp; omega) hn).trans ((World.putObj_heap_other (by omega)).trans (hgw.block k hk hn)))⟩
      have fin : ∀ (jump : Option Code) (C : World), GB Bx (u.putObj (w.heap.size + 1) (.loop { rec .ready none with state := .busy })) C →
          (Instr.endRound (w.heap.size + 1) jump).run P C = .ok (.bool jump.isNone) (C.putObj (w.heap.size + 1) (.loop (rec (if jump.isNone then .ready else .done) jump))) ∧
          C.heap[w.heap.size + 1]? = some (.loop { rec .ready none with state := .busy }) ∧
          (C.putObj (w.heap.size + 1) (.loop (rec (if jump.isNone then .ready else .done) jump))).heap[w.heap.size + 1]? = some (.loop (rec (if jump.isNone then .ready else .done) jump)) ∧
          (C.putObj (w.heap.size + 1) (.loop (rec (if jump.isNone then .ready else .done) jump))).heap[w.heap.size]? = some (.deferred (some [])) := fun jump C hC => by
        have hl3 := (hC.block (w.heap.size + 1) (by simp; omega) (fun h => hBl _ h rfl)).trans hl2
        have hd3 := (hC.block w.heap.size (by simp; omega) (fun h => hBd _ h rfl)).trans hd2
        have := run_endRound (P := P) jump hl3
        rw [hrec] at this ⊢
        exact ⟨this, by rw [hrec] at hl3; exact hl3, World.putObj_heap_same (Array.getElem?_eq_some_iff.1 hl3).1, (World.putObj_heap_other (by omega)).trans hd3⟩
      refine wpIn_mono hb (fun e a3 C q => ?_)
      cases e with
      | normal =>
        obtain ⟨_, k1, k2⟩ := q
        obtain ⟨hr, hl3, hl4, hd4⟩ := fin none C k1
        exact ⟨_, _, hr, _, rfl, gw _ k1 _, .inl ⟨rfl, hI _ _ _ k2 (gi_putObj _ hl3 rfl (by omega)), hl4, hd4, gw2 _ k1 _⟩⟩
      | ret =>
        obtain ⟨_, k1, k2⟩ := q
        obtain ⟨hr, hl3, hl4, hd4⟩ := fin (some .ret) C k1
        exact ⟨_, _, hr, _, rfl, gw _ k1 _, .inr ⟨rfl, .ret, hIx _ _ _ _ k2 (gi_putObj _ hl3 rfl (by omega)), hl4, hd4, gw2 _ k1 _⟩⟩
      | exit id =>
        have q : match (ids.map fun id => (id, (fun ds a A' => ds = [] ∧ GB Bx (u.putObj (w.heap.size + 1) (.loop { rec .ready none with state := .busy })) A' ∧ Ix (.exit id) (pre ++ [x]) A' : DPost))).lookup id with | some k => onD k a3 C | none => False := q
        rw [lookup_map] at q
        split at q
        · rename_i k hk
          split at hk
          · injection hk with hk; subst hk
            obtain ⟨_, k1, k2⟩ := q
            obtain ⟨hr, hl3, hl4, hd4⟩ := fin (some (.exit id)) C k1
            exact ⟨_, _, hr, _, rfl, gw _ k1 _, .inr ⟨rfl, .exit id, hIx _ _ _ _ k2 (gi_putObj _ hl3 rfl (by omega)), hl4, hd4, gw2 _ k1 _⟩⟩
          · cases hk
        · exact q.elim
      | goto t => exact q.elim
      | panic ch => exact q.elim
      | outgrown => exact q.elim
    | ret => exact q.elim
    | exit id => exact q.elim
    | goto t => exact q.elim
    | panic ch => exact q.elim
    | outgrown => exact q.elim
  · -- behind the iterator
    obtain ⟨v, rfl, hgb, h⟩ := h
    have e3 : wd [] ({ wd ds a with defers := [markD w.heap.size] ++ (wd ds a).defers } : Act) = a := ha.strip ds
    have fin : ∀ (st : LoopState) (pe : Option Code), W'.heap[w.heap.size + 1]? = some (.loop (rec st pe)) → GB Bx w W' → GB Bx w (W'.putObj (w.heap.size + 1) (.loop { rec st pe with state := .exhausted })) := fun st pe _ hg =>
      ⟨hg.os, hg.tape, hg.output, by have := hg.size; simp at *; omega, fun k hk hn => (World.putObj_heap_other (by omega)).trans (hg.block k hk hn)⟩
    rcases h with ⟨hi, hl, hd, hg⟩ | ⟨pre, x, hpre, c, hi, hl, hd, hg⟩
    · refine ⟨none, _, (run_endLoop (P := P) hl (by rw [hrec]; simp)).trans (congrArg (fun x => Result.ok x _) (show (rec .ready none).pending = none by rw [hrec])), ?_⟩
      show N (markD w.heap.size :: ds) (wd [] ({ wd ds a with defers := [markD w.heap.size] ++ (wd ds a).defers } : Act)) _
      rw [e3]
      have := hdone w.heap.size _ (hI _ _ _ hi (gi_putObj (.loop { rec .ready none with state := .exhausted }) hl rfl (by omega))) (Nat.le_refl _) ((World.putObj_heap_other (by omega)).trans hd) (fin _ _ hl hg) a ha
      exact this
    · refine ⟨some c, _, (run_endLoop (P := P) hl (by rw [hrec]; simp)).trans (congrArg (fun x => Result.ok x _) (show (rec .done (some c)).pending = some c by rw [hrec])), ?_⟩
      have := hstop w.heap.size c pre x _ (hIx _ _ _ _ hi (gi_putObj (.loop { rec .done (some c) with state := .exhausted }) hl rfl (by omega))) hpre (Nat.le_refl _) ((World.putObj_heap_other (by omega)).trans hd) (fin _ _ hl hg) a ha
      exact this
end
end Go.Rk
namespace Go.Rk
open Go Go.RowKit
set_option linter.unusedVariables false
/-- The printer in block b holds bytes; it stands at k tabs. -/
structure Bld (base b : Nat) (l : List UInt8) (k : Int) (p a : Option Addr) (q : Nat) (w : World) : Prop where
  B : Blk w b ty_syntax_printer [.pointer p, .slice a l.length q, .int .i64 k]
  hb : base ≤ b
  row : w.ownsRow base ty_uint8 1 (.slice a l.length q) l.length (Lib.byteCells l)
  n1 : (Value.slice a l.length q).ownBlock ≠ some b
  hp : p = none ∨ p = some ⟨b, 0, none⟩
theorem Bld.grow {base b : Nat} {l : List UInt8} {k : Int} {p a : Option Addr} {q : Nat} {w w' : World} (h : Bld base b l k p a q w) (g : G w w') : Bld base b l k p a q w' := { h with B := h.B.grow g, row := own_grow h.row g }
theorem unsafe_to : unsafeTo PP ty_p_strings_Builder ty_unsafe_Pointer = true := by kernel_rfl
theorem unsafe_from : unsafeFrom PP ty_unsafe_Pointer ty_p_strings_Builder ty_syntax_printer 3 0 = true := by kernel_rfl
theorem noEsc : isNoEscape PP 106 := noEscape_of (fn := Go.Proofs.Tryd.f106) Go.Proofs.Tryd.func106 (by kernel_rfl) (by kernel_rfl) (by kernel_rfl) (by kernel_rfl)
theorem bld_ptr : ∀ e, PP.underlying ty_p_strings_Builder = some (.pointer e) → (PP.info? e).isSome = true := fun e he => by
  have h : (match PP.underlying ty_p_strings_Builder with | some (.pointer e) => (PP.info? e).isSome | _ => false) = true := by kernel_rfl
  rw [he] at h; exact h
/-- What a builder's method leaves alone. -/
structure Keep (b : Nat) (v : Value) (w w' : World) : Prop where
  size : w.heap.size ≤ w'.heap.size
  block : ∀ k, k < w.heap.size → k ≠ b → v.ownBlock ≠ some k → w'.heap[k]? = w.heap[k]?
theorem Keep.refl (b : Nat) (v : Value) (w : World) : Keep b v w w := ⟨Nat.le_refl _, fun _ _ _ _ => rfl⟩
theorem Keep.grow {b : Nat} {v : Value} {w w' w1 : World} (h : Keep b v w w') (g : G w' w1) : Keep b v w w1 := ⟨Nat.le_trans h.size g.size, fun k hk h1 h2 => (g.block (Nat.lt_of_lt_of_le hk h.size)).trans (h.block k hk h1 h2)⟩
theorem Keep.only {b : Nat} {v : Value} {w w' w1 : World} (h : Keep b v w w') (hg : w'.grownBy w1 (some b)) : Keep b v w w1 := ⟨Nat.le_trans h.size hg.size, fun k hk h1 h2 => (hg.block k (Nat.lt_of_lt_of_le hk h.size) (by intro e; injection e with e; exact h1 e)).trans (h.block k hk h1 h2)⟩
theorem Keep.own {b : Nat} {v : Value} {w w' w1 : World} (h : Keep b v w w') (hg : w'.grownBy w1 v.ownBlock) : Keep b v w w1 := ⟨Nat.le_trans h.size hg.size, fun k hk h1 h2 => (hg.block k (Nat.lt_of_lt_of_le hk h.size) (Ne.symm h2)).trans (h.block k hk h1 h2)⟩
theorem Keep.trans {b : Nat} {v : Value} {w w' w1 : World} (h : Keep b v w w') (h' : Keep b v w' w1) : Keep b v w w1 := ⟨Nat.le_trans h.size h'.size, fun k hk h1 h2 => (h'.block k (Nat.lt_of_lt_of_le hk h.size) h1 h2).trans (h.block k hk h1 h2)⟩
theorem copycheck_ok (base b : Nat) (l : List UInt8) (k : Int) (p a : Option Addr) (q : Nat) (w : World) (h : Bld base b l k p a q w) : Ret PP fn_strings_Builder_copyCheck #[.pointer (some ⟨b, 0, none⟩)] w fun v w' => v = .tuple #[] ∧ Bld base b l k (some ⟨b, 0, none⟩) a q w' ∧ Below base w w' ∧ Keep b (.slice a l.length q) w w' := by
  have g := G.refl w
  refine ret_of_sc (m := 20) func_strings_Builder_copyCheck rfl rfl [(0, True, _)] (sub_cons rfl (sub_nil _)) ?_
  refine sc_seq fun K1 hK1 => ?_
  refine sc_text [3, 3, 3, 0, 3] ?_
  refine sr_pu rfl (fun _ => rd_move (ev_t rfl)) ?_
  refine sr_pu rfl (fun _ => rd_nil (ev_t rfl)) ?_
  refine sr_pu rfl (fun _ => rd_field fo_strings_Builder_0 (ev_t rfl)) ?_
  refine sr_rd rfl (rd_load one_p_strings_Builder (ev_t rfl) (fun _ => by first | exact (h.grow g).B.at_ rfl)) ?_
  refine sr_pu rfl (fun _ => rd_peq pt_p_strings_Builder (ev_t rfl)) ?_
  refine sr_sub [(0, _, _), (6, _, _)] (sub_cons rfl (sub_cons rfl (sub_nil _))) ?_
  refine sr_nil (hK1 _ _ ?_)
  refine sc_cond (ev_t rfl) (fun h1 => ?_) (fun h1 => ?_)
  · have hp : p = none := by cases p with
      | none => rfl
      | some x => cases h1
    refine sc_text [3, 3, 0, 3, 0, 3, 3, 2] ?_
    refine sr_pu rfl (fun _ => rd_move (ev_t rfl)) ?_
    refine sr_pu rfl (fun _ => rd_move (ev_t rfl)) ?_
    refine sr_rd rfl (rd_to_unsafe unsafe_to (ev_t rfl) (fun _ => (h.grow g).B) rfl) ?_
    refine sr_pu rfl (fun _ => rd_noescape noEsc (ev_t rfl)) ?_
    refine sr_rd rfl (rd_from_unsafe (e := ty_syntax_printer) (l := [_, _, _]) unsafe_from (ev_t rfl) (fun _ => (h.grow g).B)) ?_
    refine sr_pu rfl (fun _ => rd_nil (ev_t rfl)) ?_
    refine sr_pu rfl (fun _ => rd_field fo_strings_Builder_0 (ev_t rfl)) ?_
    refine sr_store rfl sz_p_strings_Builder (ev_t rfl) (ev_t rfl) rfl rfl (h.grow g).B rfl rfl ?_
    intro w13 hg13 hz13 hB
    have hb' := below_go (Below.refl _ _) g hg13 (by have := h.hb; have := h.B.lt; omega) h.hb
    refine sr_sub [] (sub_nil _) ?_
    refine sr_nil (t_end0 rfl ?_)
    exact ⟨rfl, ⟨hB, h.hb, own_keep (own_grow h.row g) hg13 (.inr h.n1), h.n1, .inr rfl⟩, hb', ((Keep.refl _ _ _).grow g).only hg13⟩
  obtain rfl : p = some ⟨b, 0, none⟩ := by
    rcases h.hp with e | e
    · rw [e] at h1; cases h1
    · exact e
  refine sc_seq fun K2 hK2 => ?_
  refine sc_text [3, 3, 3, 0, 3, 0] ?_
  refine sr_pu rfl (fun _ => rd_move (ev_t rfl)) ?_
  refine sr_pu rfl (fun _ => rd_nil (ev_t rfl)) ?_
  refine sr_pu rfl (fun _ => rd_field fo_strings_Builder_0 (ev_t rfl)) ?_
  refine sr_rd rfl (rd_load one_p_strings_Builder (ev_t rfl) (fun _ => by first | exact (h.grow g).B.at_ rfl)) ?_
  refine sr_pu rfl (fun _ => rd_move (ev_t rfl)) ?_
  refine sr_rd rfl (rd_pne_same pt_p_strings_Builder bld_ptr (ev_t rfl) (ev_t rfl)) ?_
  refine sr_sub [(19, _, _)] (sub_cons rfl (sub_nil _)) ?_
  refine sr_nil (hK2 _ _ ?_)
  refine sc_false (ev_t rfl) ?_
  refine sc_skip (t_end0 rfl ?_)
  exact ⟨rfl, h.grow g, below_g g (by have := h.hb; have := h.B.lt; omega), (Keep.refl _ _ _).grow g⟩
theorem ne_own {w : World} {base b m c : Nat} {xs l : List Value} {a : Option Addr} {e t : TypeId} (ho : w.ownsRow base e 1 (.slice a m c) m xs) (hB : Blk w b t l) (ht : t ≠ e) : (Value.slice a m c).ownBlock ≠ some b := Lib.ownBlock_ne ho hB ht
theorem writebyte_ok (base b : Nat) (l : List UInt8) (k : Int) (p a : Option Addr) (q : Nat) (c : UInt8) (w : World) (h : Bld base b l k p a q w) (hl : l.length < 100000000) : Ret PP fn_strings_Builder_WriteByte #[.pointer (some ⟨b, 0, none⟩), .int .u8 c.toNat] w fun v w' => v = .nilIface ∧ (∃ a' q', Bld base b (l ++ [c]) k (some ⟨b, 0, none⟩) a' q' w') ∧ Below base w w' ∧ Keep b (.slice a l.length q) w w' := by
  have g := G.refl w
  refine ret_of_sc (m := 17) func_strings_Builder_WriteByte rfl rfl [(0, True, _), (1, True, _)] (sub_cons rfl (sub_cons rfl (sub_nil _))) ?_
  refine sc_seq fun K1 hK1 => ?_
  refine sc_text [3] ?_
  refine sr_pu rfl (fun _ => rd_assign ev_c) ?_
  refine sr_nil (hK1 _ _ ?_)
  refine sc_seq fun K2 hK2 => ?_
  refine sc_text [3, 2] ?_
  refine sr_pu rfl (fun _ => rd_move (ev_t rfl)) ?_
  refine sr_call rfl (rc_call go_strings_Builder_copyCheck ev_f (args_cons (ev_t rfl) (args_nil)) rfl) (copycheck_ok base b l k p a q _ (h.grow g)) ?_
  rintro v6 w6 ⟨rfl, h, hb, hk⟩
  refine ⟨fun h => absurd h (by decide), ?_⟩
  have hb := (below_g g (by have := h.hb; have := hb.size; have := ‹Bld base b l k p a q w›.B.lt; omega)).trans hb
  have hk := ((Keep.refl _ _ _).grow g).trans hk
  have g := G.refl w6
  refine sr_sub [(0, _, _), (1, _, _), (4, _, _)] (sub_cons rfl (sub_cons rfl (sub_cons rfl (sub_nil _)))) ?_
  refine sr_nil (hK2 _ _ ?_)
  refine sc_seq fun K3 hK3 => ?_
  refine sc_text [3, 3, 3, 3, 0, 3, 1, 2, 3, 3, 2] ?_
  refine sr_pu rfl (fun _ => rd_move (ev_t rfl)) ?_
  refine sr_pu rfl (fun _ => rd_move (ev_t rfl)) ?_
  refine sr_pu rfl (fun _ => rd_nil (ev_t rfl)) ?_
  refine sr_pu rfl (fun _ => rd_field fo_strings_Builder_1 (ev_t rfl)) ?_
  refine sr_rd rfl (rd_load one_sl_uint8 (ev_t rfl) (fun _ => by first | exact (h.grow g).B.at_ rfl)) ?_
  refine sr_pu rfl (fun _ => rd_move (ev_t rfl)) ?_
  refine sr_buildSlice [_] rfl el_sl_uint8 ze_uint8 (parts_cons (ev_t rfl) (parts_nil)) rfl rfl ?_
  intro b13 w13 N13
  have l13 := N13.ge g
  have g := g.trans (N13.g)
  have B13 := N13.blk
  have hbase : base ≤ w6.heap.size := by have := h.hb; have := h.B.lt; omega
  have hb := hb.trans (below_g g hbase)
  have h := h.grow g
  refine sr_append rfl el_sl_uint8 ze_uint8 rfl (by decide) (ev_t rfl) h.row (ev_t rfl) rfl N13.blk.row rfl (by simp only [maxLen]; omega) (by omega) (by have := g.size; omega) ?_
  intro a' c' w14 ht' hg14 hat
  have hB := h.B.keep hg14 (Ne.symm h.n1)
  refine sr_pu rfl (fun _ => rd_nil (ev_t rfl)) ?_
  refine sr_pu rfl (fun _ => rd_field fo_strings_Builder_1 (ev_t rfl)) ?_
  refine sr_store rfl sz_sl_uint8 (ev_t rfl) (ev_t rfl) rfl rfl hB rfl rfl ?_
  intro w16 hg16 hz16 hB
  have n1 := ne_own ht' (h.B.keep hg14 (Ne.symm h.n1)) (by decide)
  have hb := below_only (below_only hb hg14 (by have := g.size; omega) (fun k hk => (h.row.lt k hk).1)) hg16 (by have := g.size; have := hg14.size; omega) (fun k hk => by injection hk with hk; have := h.hb; omega)
  refine sr_sub [(4, _, _)] (sub_cons rfl (sub_nil _)) ?_
  refine sr_nil (hK3 _ _ ?_)
  refine sc_seq fun K4 hK4 => ?_
  refine sc_text [3] ?_
  refine sr_pu rfl (fun _ => rd_assign ev_c) ?_
  refine sr_nil (hK4 _ _ ?_)
  refine sc_ret (t_ret1 rfl rfl ?_)
  have hlen : (l ++ [c]).length = l.length + 1 := by simp
  refine ⟨rfl, ⟨a', c', ⟨by rw [hlen]; exact hB, h.hb, ?_, by rw [hlen]; exact n1, .inr rfl⟩⟩, hb, ((hk.grow g).own hg14).only hg16⟩
  rw [hlen, Lib.byteCells_append]
  exact own_keep ht' hg16 (.inr n1)
theorem writestring_ok (base b : Nat) (l : List UInt8) (k : Int) (p a : Option Addr) (q : Nat) (s : List UInt8) (w : World) (h : Bld base b l k p a q w) (hl : l.length + s.length < 100000000) : Ret PP fn_strings_Builder_WriteString #[.pointer (some ⟨b, 0, none⟩), Str s] w fun v w' => (∃ x, v = x) ∧ (∃ a' q', Bld base b (l ++ s) k (some ⟨b, 0, none⟩) a' q' w') ∧ Below base w w' ∧ Keep b (.slice a l.length q) w w' := by
  have g := G.refl w
  refine ret_of_sc (m := 19) func_strings_Builder_WriteString rfl rfl [(0, True, _), (1, True, _)] (sub_cons rfl (sub_cons rfl (sub_nil _))) ?_
  refine sc_seq fun K1 hK1 => ?_
  refine sc_text [3, 3] ?_
  refine sr_pu rfl (fun _ => rd_assign ev_c) ?_
  refine sr_pu rfl (fun _ => rd_assign ev_c) ?_
  refine sr_nil (hK1 _ _ ?_)
  refine sc_seq fun K2 hK2 => ?_
  refine sc_text [3, 2] ?_
  refine sr_pu rfl (fun _ => rd_move (ev_t rfl)) ?_
  refine sr_call rfl (rc_call go_strings_Builder_copyCheck ev_f (args_cons (ev_t rfl) (args_nil)) rfl) (copycheck_ok base b l k p a q _ (h.grow g)) ?_
  rintro v7 w7 ⟨rfl, h, hb, hk⟩
  refine ⟨fun h => absurd h (by decide), ?_⟩
  have hb := (below_g g (by have := h.hb; have := hb.size; have := ‹Bld base b l k p a q w›.B.lt; omega)).trans hb
  have hk := ((Keep.refl _ _ _).grow g).trans hk
  have g := G.refl w7
  refine sr_sub [(0, _, _), (1, _, _), (4, _, _), (5, _, _)] (sub_cons rfl (sub_cons rfl (sub_cons rfl (sub_cons rfl (sub_nil _))))) ?_
  refine sr_nil (hK2 _ _ ?_)
  refine sc_seq fun K3 hK3 => ?_
  refine sc_text [3, 3, 3, 3, 0, 3, 2, 3, 3, 2] ?_
  refine sr_pu rfl (fun _ => rd_move (ev_t rfl)) ?_
  refine sr_pu rfl (fun _ => rd_move (ev_t rfl)) ?_
  refine sr_pu rfl (fun _ => rd_nil (ev_t rfl)) ?_
  refine sr_pu rfl (fun _ => rd_field fo_strings_Builder_1 (ev_t rfl)) ?_
  refine sr_rd rfl (rd_load one_sl_uint8 (ev_t rfl) (fun _ => by first | exact (h.grow g).B.at_ rfl)) ?_
  refine sr_pu rfl (fun _ => rd_move (ev_t rfl)) ?_
  have hbase : base ≤ w7.heap.size := by have := h.hb; have := h.B.lt; omega
  have hb := hb.trans (below_g g hbase)
  have h := h.grow g
  refine sr_appends rfl el_sl_uint8 ze_uint8 str_string (ev_t rfl) h.row (ev_t rfl) (by omega) (by have := g.size; omega) ?_
  intro a' c' w14 ht' hg14
  have hB := h.B.keep hg14 (Ne.symm h.n1)
  refine sr_pu rfl (fun _ => rd_nil (ev_t rfl)) ?_
  refine sr_pu rfl (fun _ => rd_field fo_strings_Builder_1 (ev_t rfl)) ?_
  refine sr_store rfl sz_sl_uint8 (ev_t rfl) (ev_t rfl) rfl rfl hB rfl rfl ?_
  intro w16 hg16 hz16 hB
  have n1 := ne_own ht' (h.B.keep hg14 (Ne.symm h.n1)) (by decide)
  have hb := below_only (below_only hb hg14 (by have := g.size; omega) (fun k hk => (h.row.lt k hk).1)) hg16 (by have := g.size; have := hg14.size; omega) (fun k hk => by injection hk with hk; have := h.hb; omega)
  refine sr_sub [(1, _, _), (4, _, _), (5, _, _)] (sub_cons rfl (sub_cons rfl (sub_cons rfl (sub_nil _)))) ?_
  refine sr_nil (hK3 _ _ ?_)
  refine sc_seq fun K4 hK4 => ?_
  refine sc_text [3, 3, 3, 3] ?_
  refine sr_pu rfl (fun _ => rd_move (ev_t rfl)) ?_
  refine sr_pu rfl (fun _ => rd_slen str_string (ev_t rfl)) ?_
  refine sr_pu rfl (fun _ => rd_assign (ev_t rfl)) ?_
  refine sr_pu rfl (fun _ => rd_assign ev_c) ?_
  refine sr_sub [(4, _, _), (5, _, _)] (sub_cons rfl (sub_cons rfl (sub_nil _))) ?_
  refine sr_nil (hK4 _ _ ?_)
  refine sc_ret (t_rets (ts := [4, 5]) (vs := [_, _]) rfl rfl rfl ?_)
  have hlen : (l ++ s).length = l.length + s.length := by simp
  refine ⟨⟨_, rfl⟩, ⟨a', c', ⟨by rw [hlen]; exact hB, h.hb, ?_, by rw [hlen]; exact n1, .inr rfl⟩⟩, hb, ((hk.grow g).own hg14).only hg16⟩
  rw [hlen, Lib.byteCells_append]
  exact own_keep ht' hg16 (.inr n1)
end Go.Rk
namespace Go.Rk
open Go Go.RowKit
def rng (z : Int) : Prop := -9223372036854775808 ≤ z ∧ z ≤ 9223372036854775807
def okNd (t : Nd) : Prop := para (fun t l => rng t.kind ∧ rng t.num ∧ rng t.pos ∧ rng t.ty.kind ∧ rng t.ref ∧ rng t.up ∧ ∀ p ∈ l, p) t
theorem okNd_eq (t : Nd) : okNd t = (rng t.kind ∧ rng t.num ∧ rng t.pos ∧ rng t.ty.kind ∧ rng t.ref ∧ rng t.up ∧ ∀ p ∈ t.kids.map okNd, p) := para_eq _ t
theorem okNd_kid {t k : Nd} (h : okNd t) (hk : k ∈ t.kids) : okNd k := by
  rw [okNd_eq] at h; exact h.2.2.2.2.2.2 _ (List.mem_map_of_mem hk)
end Go.Rk
namespace Go.Rk
open Go Go.RowKit Go.ChangeShapes Go.WideShapes
abbrev bulk {H : Type} : DataW H → Nat := Go.Proofs.YtheifopckahdiaaDoor.Rows.uptoBulk
abbrev bulkAll {H : Type} : List (DataW H) → Nat := Go.Proofs.YtheifopckahdiaaDoor.Rows.uptoBulkAll
theorem bulkAll_mem {H : Type} : ∀ (l : List (DataW H)) (d : DataW H), d ∈ l → bulk d ≤ bulkAll l
  | [], d, h => by cases h
  | x :: l, d, h => by
    simp only [bulk, bulkAll, Go.Proofs.YtheifopckahdiaaDoor.Rows.uptoBulkAll]
    rcases List.mem_cons.1 h with rfl | h
    · omega
    · have := bulkAll_mem l d h; simp only [bulk, bulkAll] at this; omega
theorem bulkAll_append {H : Type} : ∀ (l m : List (DataW H)), bulkAll (l ++ m) = bulkAll l + bulkAll m
  | [], m => by simp [bulkAll, Go.Proofs.YtheifopckahdiaaDoor.Rows.uptoBulkAll]
  | x :: l, m => by
    have := bulkAll_append l m
    simp only [bulkAll, List.cons_append, Go.Proofs.YtheifopckahdiaaDoor.Rows.uptoBulkAll] at this ⊢; omega
theorem und_int : PP.underlying 3 = some (.int .i64) := by kernel_rfl
theorem und_string : PP.underlying 9 = some .string := by kernel_rfl
theorem cel_int : PP.cellsOf 3 = 1 := by kernel_rfl
theorem cel_string : PP.cellsOf 9 = 1 := by kernel_rfl
noncomputable def fieldsOf' (t : TypeId) : Option (List (Nat × Nat)) := match PP.underlying t with | some (.struct fs) => some (fs.toList.map fun f => (f.type, f.offset)) | _ => none
theorem fields_some {t : TypeId} {L : List (Nat × Nat)} (hL : fieldsOf' t = some L) : ∃ fs, PP.underlying t = some (.struct fs) := by
  unfold fieldsOf' at hL
  split at hL
  · rename_i fs hfs
    exact ⟨fs, hfs⟩
  · cases hL
theorem len2 {α : Type} {l : List α} (h : l.length = 2) : ∃ a b, l = [a, b] := by
  match l, h with
  | [a, b], _ => exact ⟨a, b, rfl⟩
theorem len8 {α : Type} {l : List α} (h : l.length = 8) : ∃ a b c d e f g i, l = [a, b, c, d, e, f, g, i] := by
  match l, h with
  | [a, b, c, d, e, f, g, i], _ => exact ⟨a, b, c, d, e, f, g, i, rfl⟩
theorem len9 {α : Type} {l : List α} (h : l.length = 9) : ∃ a b c d e f g i j, l = [a, b, c, d, e, f, g, i, j] := by
  match l, h with
  | [a, b, c, d, e, f, g, i, j], _ => exact ⟨a, b, c, d, e, f, g, i, j, rfl⟩
section
variable {H : Type} {enc : TypeId × Value → H} {w : World} {base : Nat} {sp : Nat → Bool} {held : Bool}
theorem trod_fields {t : TypeId} {L : List (Nat × Nat)} (hL : fieldsOf' t = some L) {fuel : Nat} {cs : List Value} {x : DataW H × List MemPlace} (h : DataW.trod enc PP w base sp held fuel t cs = some x) :
    ∃ (xs : List (DataW H × List MemPlace)) (n : Nat), x = (.agg (xs.map (·.1)), xs.flatMap (·.2)) ∧ cs.length = PP.cellsOf t ∧ xs.length = L.length ∧
      ∀ (i ty o : Nat), L[i]? = some (ty, o) → DataW.trod enc PP w base sp held n ty ((cs.drop o).take (PP.cellsOf ty)) = xs[i]? := by
  unfold fieldsOf' at hL
  split at hL
  · rename_i fs hfs
    injection hL with hL
    obtain ⟨xs, n, rfl, rfl, hl, hxl, hx⟩ := DataW.trod_struct hfs h
    refine ⟨xs, n, rfl, hl, by rw [← hL, hxl]; simp, fun i ty o hi => ?_⟩
    rw [← hL, List.getElem?_map] at hi
    cases hq : fs.toList[i]? with
    | none => rw [hq] at hi; cases hi
    | some f =>
      rw [hq] at hi
      simp only [Option.map_some, Option.some.injEq, Prod.mk.injEq] at hi
      obtain ⟨rfl, rfl⟩ := hi
      exact hx i f (by rw [← Array.getElem?_toList]; exact hq)
  · cases hL
theorem rng_of {z : Int} (h : (Lit.int .i64 z).wf = true) : rng z := by
  simp only [Lit.wf, Bool.and_eq_true, decide_eq_true_eq] at h
  exact h
theorem fields_ty : fieldsOf' 24 = some [(3, 0), (9, 1)] := by kernel_rfl
theorem cel_ty : PP.cellsOf 24 = 2 := by kernel_rfl
theorem open_tyc {fuel : Nat} {cs : List Value} {x : DataW H × List MemPlace} (h : DataW.trod enc PP w base sp held fuel 24 cs = some x) : ∃ y : Ty, cs = tyCells y ∧ rng y.kind ∧ y.name.length + 1 ≤ bulk x.1 := by
  obtain ⟨xs, n, rfl, hl, hxl, hx⟩ := trod_fields fields_ty h
  rw [cel_ty] at hl
  have h0 := hx 0 _ _ rfl
  have h1 := hx 1 _ _ rfl
  rw [cel_int] at h0
  rw [cel_string] at h1
  obtain ⟨v0, v1, rfl⟩ := len2 hl
  obtain ⟨y0, y1, rfl⟩ := len2 hxl
  · skip
    simp only [List.drop_zero, List.take_succ_cons, List.take_zero, List.drop_succ_cons, List.getElem?_cons_zero, List.getElem?_cons_succ] at h0 h1
    obtain ⟨z0, c0, rfl, w0⟩ := DataW.trod_int und_int h0
    obtain ⟨s1, c1, rfl, _⟩ := DataW.trod_string und_string h1
    injection c0 with c0 _
    injection c1 with c1 _
    subst c0 c1
    refine ⟨⟨z0, s1.data.toList⟩, rfl, rng_of w0, ?_⟩
    simp [bulk, Go.Proofs.YtheifopckahdiaaDoor.Rows.uptoBulk, Go.Proofs.YtheifopckahdiaaDoor.Rows.uptoBulkAll]; omega
theorem fields_nd : fieldsOf' 26 = some [(3, 0), (9, 1), (3, 2), (3, 3), (22, 4), (24, 5), (3, 7), (3, 8)] := by kernel_rfl
theorem cel_nd : PP.cellsOf 26 = 9 := by kernel_rfl
theorem cel_snd : PP.cellsOf 22 = 1 := by kernel_rfl
theorem und_snd : PP.underlying 22 = some (.slice 26) := by kernel_rfl
theorem rowAt_nds {w : World} {b : Nat} {D : Nat → Prop} : ∀ (l : List Nd) (o : Nat), (∀ i, (h : i < l.length) → ∃ v, RowAt w b (o + i * 9) (ndCells l[i] v) ∧ Kd w D l[i].kids v) → ∃ xs, RowAt w b o xs ∧ KRow w D l xs
  | [], o, _ => ⟨[], fun j v hj => by simp at hj, rfl⟩
  | t :: l, o, h => by
    obtain ⟨v0, h0, k0⟩ := h 0 (by simp)
    obtain ⟨xs, ih, kx⟩ := rowAt_nds l (o + 9) (fun i hi => by
      obtain ⟨v, h1, h2⟩ := h (i + 1) (by simpa using hi)
      rw [show o + (i + 1) * 9 = o + 9 + i * 9 by omega] at h1
      exact ⟨v, by simpa using h1, by simpa using h2⟩)
    refine ⟨ndCells t v0 ++ xs, fun j v hj => ?_, krow_cons (by simpa using k0) kx⟩
    by_cases hj9 : j < 9
    · rw [List.getElem?_append_left (by simpa [ndCells] using hj9)] at hj
      exact h0 j v (by simpa using hj)
    · rw [List.getElem?_append_right (by simp [ndCells]; omega)] at hj
      have := ih (j - 9) v (by simpa [ndCells] using hj)
      rw [show o + 9 + (j - 9) = o + j by omega] at this
      exact this
theorem open_nd : ∀ (N fuel : Nat) (cs : List Value) (x : DataW H × List MemPlace), bulk x.1 ≤ N → DataW.trod enc PP w base sp held fuel 26 cs = some x →
    ∃ (t : Nd) (v : Value), cs = ndCells t v ∧ Kd w (fun _ => True) t.kids v ∧ okNd t ∧ count t ≤ bulk x.1 := by
  intro N
  induction N with
  | zero =>
    intro fuel cs x hb h
    obtain ⟨xs, n, rfl, _⟩ := trod_fields fields_nd h
    simp [bulk, Go.Proofs.YtheifopckahdiaaDoor.Rows.uptoBulk] at hb
  | succ N ih =>
    intro fuel cs x hb h
    obtain ⟨xs, n, rfl, hl, hxl, hx⟩ := trod_fields fields_nd h
    rw [cel_nd] at hl
    have h0 := hx 0 _ _ rfl
    have h1 := hx 1 _ _ rfl
    have h2 := hx 2 _ _ rfl
    have h3 := hx 3 _ _ rfl
    have h4 := hx 4 _ _ rfl
    have h5 := hx 5 _ _ rfl
    have h6 := hx 6 _ _ rfl
    have h7 := hx 7 _ _ rfl
    rw [cel_int] at h0 h2 h3 h6 h7
    rw [cel_string] at h1
    rw [cel_snd] at h4
    rw [cel_ty] at h5
    obtain ⟨v0, v1, v2, v3, v4, v5, v5', v6, v7, rfl⟩ := len9 hl
    obtain ⟨y0, y1, y2, y3, y4, y5, y6, y7, rfl⟩ := len8 hxl
    · skip
      simp only [List.drop_zero, List.take_succ_cons, List.take_zero, List.drop_succ_cons, List.getElem?_cons_zero, List.getElem?_cons_succ] at h0 h1 h2 h3 h4 h5 h6 h7
      obtain ⟨z0, c0, rfl, w0⟩ := DataW.trod_int und_int h0
      obtain ⟨s1, c1, rfl, _⟩ := DataW.trod_string und_string h1
      obtain ⟨z2, c2, rfl, w2⟩ := DataW.trod_int und_int h2
      obtain ⟨z3, c3, rfl, w3⟩ := DataW.trod_int und_int h3
      obtain ⟨z6, c6, rfl, w6⟩ := DataW.trod_int und_int h6
      obtain ⟨z7, c7, rfl, w7⟩ := DataW.trod_int und_int h7
      obtain ⟨y, cy, wy, _⟩ := open_tyc h5
      injection c0 with c0 _; injection c1 with c1 _; injection c2 with c2 _; injection c3 with c3 _; injection c6 with c6 _; injection c7 with c7 _
      simp only [tyCells, List.cons.injEq, and_true] at cy
      obtain ⟨cy1, cy2⟩ := cy
      subst c0 c1 c2 c3 c6 c7 cy1 cy2
      have hb4 : bulk y4.1 ≤ N := by
        simp only [bulk, Go.Proofs.YtheifopckahdiaaDoor.Rows.uptoBulk, Go.Proofs.YtheifopckahdiaaDoor.Rows.uptoBulkAll, List.map_cons, List.map_nil] at hb ⊢; omega
      have done : ∀ (ks : List Nd), Kd w (fun _ => True) ks v4 → (∀ k ∈ ks, okNd k) → (ks.map count).sum ≤ bulk y4.1 →
          ∃ (t : Nd) (v : Value), [Value.int .i64 z0, .string s1, .int .i64 z2, .int .i64 z3, v4, .int .i64 y.kind, Str y.name, .int .i64 z6, .int .i64 z7] = ndCells t v ∧ Kd w (fun _ => True) t.kids v ∧ okNd t ∧ count t ≤ bulk (DataW.agg (List.map (·.1) [((.lit (.int .i64 z0) : DataW H), ([] : List MemPlace)), (.lit (.string s1.data.toList), []), (.lit (.int .i64 z2), []), (.lit (.int .i64 z3), []), y4, y5, (.lit (.int .i64 z6), []), (.lit (.int .i64 z7), [])])) := by
        intro ks hk hok hc
        refine ⟨.mk z0 s1.data.toList z2 z3 ks y z6 z7, v4, rfl, hk, ?_, ?_⟩
        · rw [okNd_eq]
          refine ⟨rng_of w0, rng_of w2, rng_of w3, wy, rng_of w6, rng_of w7, fun p hp => ?_⟩
          obtain ⟨k, hk1, rfl⟩ := List.mem_map.1 hp
          exact hok k hk1
        · rw [count_eq]
          simp only [bulk, Go.Proofs.YtheifopckahdiaaDoor.Rows.uptoBulk, Go.Proofs.YtheifopckahdiaaDoor.Rows.uptoBulkAll, List.map_cons, List.map_nil] at hc ⊢
          show 1 + (ks.map count).sum ≤ _
          omega
      rcases Go.Deep.open_slice und_snd h4 with ⟨e4, rfl⟩ | ⟨a, len, cap, m, n', D, Pl, e4, hba, hlc, hcm, hmm, rfl, hxs⟩
      · injection e4 with e4 _
        subst e4
        exact done [] (kd_nil w _) (fun k hk => by cases hk) (Nat.zero_le _)
      · injection e4 with e4 _
        subst e4
        have hlm : len ≤ m := by rw [hmm]; split <;> omega
        rw [cel_nd] at hxs
        have hle : bulkAll ((List.range len).map D) + 1 ≤ bulk (DataW.slice ((List.range len).map D) ((List.range (m - len)).map fun j => D (len + j))) := by
          simp only [bulk, bulkAll, Go.Proofs.YtheifopckahdiaaDoor.Rows.uptoBulk]; omega
        have build : ∀ k, k ≤ len → ∃ l : List Nd, l.length = k ∧ (∀ i, (h : i < l.length) → ∃ v, w.cells? base (a.add (i * 9)) 9 = some (ndCells l[i] v) ∧ Kd w (fun _ => True) l[i].kids v) ∧ (∀ t ∈ l, okNd t) ∧ (l.map count).sum ≤ bulkAll ((List.range k).map D) := by
          intro k
          induction k with
          | zero => intro _; exact ⟨[], rfl, fun i hi => by simp at hi, fun t ht => (by cases ht), Nat.zero_le _⟩
          | succ k ihk =>
            intro hk
            obtain ⟨l, hl1, hl2, hl3, hl4⟩ := ihk (by omega)
            obtain ⟨cs', q1, q2⟩ := hxs k (by omega)
            have hbk : bulk (D k) ≤ N := by
              have := bulkAll_mem ((List.range len).map D) (D k) (List.mem_map_of_mem (List.mem_range.2 (by omega)))
              simp only [] at hb4; omega
            obtain ⟨t, v, rfl, kt, ot, ct⟩ := ih n' cs' _ hbk q2
            refine ⟨l ++ [t], by simp [hl1], fun i hi => ?_, fun u hu => ?_, ?_⟩
            · by_cases hik : i < l.length
              · obtain ⟨v', e1, e2⟩ := hl2 i hik
                rw [List.getElem_append_left hik]; exact ⟨v', e1, e2⟩
              · have hi' : i = l.length := by simp at hi; omega
                subst hi'
                rw [List.getElem_append_right (Nat.le_refl _)]
                simp only [Nat.sub_self, List.getElem_cons_zero]
                exact ⟨v, by rw [hl1]; exact q1, kt⟩
            · rcases List.mem_append.1 hu with hu | hu
              · exact hl3 u hu
              · rw [List.mem_singleton.1 hu]; exact ot
            · rw [List.range_succ, List.map_append, List.map_append, List.sum_append, bulkAll_append]
              have : bulkAll (List.map D [k]) = bulk (D k) := by simp [bulkAll, bulk, Go.Proofs.YtheifopckahdiaaDoor.Rows.uptoBulkAll]
              rw [this]; simp only [List.map_cons, List.map_nil, List.sum_cons, List.sum_nil]; simp only [] at ct; omega
        obtain ⟨l, hl1, hl2, hl3, hl4⟩ := build len (Nat.le_refl _)
        refine done l ⟨some a, cap, by rw [hl1], by rw [hl1]; exact hlc, fun hpos => ?_⟩ hl3 (by simp only [] at hl4 hle ⊢; omega)
        obtain ⟨v0, h0, _⟩ := hl2 0 hpos
        obtain ⟨_, _, hc0⟩ := World.cells?_some h0
        have hc := hc0 0 (by omega)
        have hsp : a.spot = none := by
          cases hq : a.spot with
          | none => rfl
          | some y =>
            have : w.cell? ((a.add (0 * 9)).add 0) = none := by
              unfold World.cell?
              split
              · simp [Addr.add, hq]
              · rfl
            rw [this] at hc; simp [ndCells] at hc
        have ha : a = ⟨a.block, a.off, none⟩ := by cases a; simp only at hsp; rw [hsp]
        obtain ⟨xs', r1, r2⟩ := rowAt_nds (w := w) (b := a.block) (D := fun _ => True) l a.off (fun i hi => by
          obtain ⟨v, e1, e2⟩ := hl2 i hi
          refine ⟨v, ?_, e2⟩
          obtain ⟨_, _, hci⟩ := World.cells?_some e1
          intro j u hj
          have hj9 : j < 9 := by have := (List.getElem?_eq_some_iff.mp hj).1; simpa [ndCells] using this
          have := hci j hj9
          rw [hj] at this
          rw [← this]
          congr 1
          rw [ha, Addr.add_lit, Addr.add_lit])
        exact ⟨a.block, a.off, by rw [ha], trivial, xs', r1, r2⟩
set_option maxRecDepth 100000 in
theorem open_node {r : Reach} {b0 : Nat} {v : Value} {d : DataW H} {p : List MemPlace} (hv : Value.okWide PP w r b0 26 v) (h : DataW.Trod enc PP w base sp held 26 v d p) : ∃ (t : Nd) (u : Value), v = ndV t u ∧ Kd w (fun _ => True) t.kids u ∧ okNd t ∧ count t ≤ bulk d := by
  obtain ⟨fs, hfs⟩ := fields_some fields_nd
  obtain ⟨cs, rfl, _⟩ := okWide_struct hfs hv
  obtain ⟨fuel, hf⟩ := h
  obtain ⟨t, u, ht, h1, h2, h3⟩ := open_nd _ fuel _ _ (Nat.le_refl _) hf
  refine ⟨t, u, ?_, h1, h2, h3⟩
  show Value.agg cs = Value.agg (ndCells t u).toArray
  rw [← ht]; simp [Value.cells]
end
end Go.Rk
namespace Go.Rk
open Go Go.RowKit
set_option linter.unusedVariables false
/-- A function value that tests a kind. -/
def FnV (P : Program) (q : Int → Bool) (v : Value) (w : World) : Prop := ∃ f fs cs, v = .func (.func f) fs cs ∧ goFn P f = true ∧ ∀ (k : Int) (w' : World), G w w' → Ret P f (fs ++ #[.int .i64 k] ++ cs) w' fun r w'' => r = .bool (q k) ∧ G w' w''
theorem FnV.grow {P : Program} {q : Int → Bool} {v : Value} {w w' : World} (h : FnV P q v w) (g : G w w') : FnV P q v w' := by
  obtain ⟨f, fs, cs, rfl, h1, h2⟩ := h
  exact ⟨f, fs, cs, rfl, h1, fun k w'' g' => h2 k w'' (g.trans g')⟩
/-- A plain function as a value. -/
theorem fnV_of {P : Program} {q : Int → Bool} {f : Nat} (hgo : goFn P f = true) (h : ∀ (k : Int) (w : World), Ret P f #[.int .i64 k] w fun r w' => r = .bool (q k) ∧ G w w') (w : World) : FnV P q (.func (.func f) #[] #[]) w :=
  ⟨f, #[], #[], rfl, hgo, fun k w' _ => by simpa using h k w'⟩
section
variable {P : Program} {Z : List PanicEntry → Act → World → Prop} {ops : List Oper} {cl : List Nat} {lv : List Bool} {W0 : World} {n : Nat} {K : Act → World → Prop} {k : Nat} {rest : List Oper} {σ : List Ent} {w : World} {d : Nat} {ty : TypeId} {pos : String} {after : Array Edge}
/-- A guarded operation that makes memory. -/
theorem sr_valg {g t : Nat} {want b : Bool} {c0 : Prop} {op : Op} {v : Value} {w' : World} (hb : (!Nat.beq (clOf cl k) 0 && !Nat.beq (clOf cl k) 3 && Nat.blt d n) = true)
    (hgd : ((ops.toArray[g]?).bind (·.dst)) = some t) (hlk : look σ t = some (c0, .bool b)) (hr : RunV P n σ (c0 ∧ b = want) w op ty v w') (hg : G w w')
    (h : (c0 ∧ b = want) → SR P Z ops cl lv W0 n K (k + 1) rest ((d, c0 ∧ b = want, v) :: σ) w') (h' : ¬ (c0 ∧ b = want) → SR P Z ops cl lv W0 n K (k + 1) rest ((d, c0 ∧ b = want, v) :: σ) w) :
    SR P Z ops cl lv W0 n K k (⟨some d, op, ty, pos, after, some (g, want)⟩ :: rest) σ w := fun hl a ha => by
  obtain ⟨h0, h1⟩ := shift_ops hl
  simp only [Bool.and_eq_true, Bool.not_eq_true'] at hb
  rw [List.length_cons, List.range'_succ]
  have hw := want_of (op := op) (ty := ty) (pos := pos) (after := after) (want := want) (d := some d) hgd hlk ha
  refine ⟨_, h0, ?_⟩
  rw [if_neg (fun he => by rcases he with he | he <;> rw [he] at hb <;> simp at hb)]
  by_cases hh : c0 ∧ b = want
  · rw [if_pos (hw.2 hh)]
    exact .inl ⟨v, w', hr _ _ _ _ a ha hh, fun _ => hg, h hh h1 _ (ha.put hb.2 (fun _ => rfl) (fun hn => absurd hh hn))⟩
  · rw [if_neg (fun hq => hh (hw.1 hq))]
    exact h' hh h1 _ (ha.put hb.2 (fun hq => absurd hq hh) (fun _ => rfl))
theorem sr_buildSliceg {g t0 : Nat} {want bb : Bool} {c0 : Prop} {t e z by_ m : Nat} {ps : Array (Nat × Operand)} {vs : List (Nat × Value)} {zv : Value} (l : List Value) (hb : (!Nat.beq (clOf cl k) 0 && !Nat.beq (clOf cl k) 3 && Nat.blt d n) = true) (hgd : ((ops.toArray[g]?).bind (·.dst)) = some t0) (hlk : look σ t0 = some (c0, .bool bb))
    (ht : tyElem P t = some (e, z, by_)) (hz : zeroOf P e = some zv)
    (hx : EvParts n σ (c0 ∧ bb = want) ps vs) (hm : (Nat.ble (m * z) 16777216 && !Nat.beq (m * z) 0 && Nat.beq vs.length m) = true) (hf : fillS z 0 vs = some l)
    (h : ∀ b w1, G w w1 → (c0 ∧ bb = want → Blk w1 b e l) → SR P Z ops cl lv W0 n K (k + 1) rest ((d, c0 ∧ bb = want, .slice (some ⟨b, 0, none⟩) m m) :: σ) w1) :
    SR P Z ops cl lv W0 n K k (⟨some d, .buildSlice t m ps, ty, pos, after, some (g, want)⟩ :: rest) σ w := by
  obtain ⟨hu, i, hi, hsz, _⟩ := underlying_sl ht
  obtain ⟨i', hi', hz'⟩ := zero_info hz
  obtain rfl : i = i' := Option.some.inj (hi.symm.trans hi')
  simp only [Bool.and_eq_true, Bool.not_eq_true'] at hm
  have hm1 : ¬ (m * z > 2 ^ 24) := by have := Nat.le_of_ble_eq_true hm.1.1; omega
  have hm2 : ¬ (m * z = 0) := by intro he; rw [he] at hm; simp at hm
  have hvl := Nat.eq_of_beq_eq_true hm.2
  have hfill : Instr.fill (fun i => some (i * z, z)) ((Array.range (m * z)).map (zv.cells[· % zv.cells.size]!)) vs = some l.toArray := by
    have h1 := fillS_list z vs 0 [] ((Array.range (m * z)).map (zv.cells[· % zv.cells.size]!)).toList l hf (by simp) (by simp [hvl]) (by simp)
    have := fill_list _ _ _ _ h1
    rwa [Array.toArray_toList] at this
  refine sr_valg hb hgd hlk (w' := w.alloc (.cells l.toArray e)) (v := .slice (some ⟨w.heap.size, 0, none⟩) m m) (fun d pos after g a ha hc => ?_) (new_alloc w e l).g (fun hc => h _ _ (new_alloc w e l).g (fun _ => (new_alloc w e l).blk)) (fun hc => h _ _ (G.refl w) (fun hq => absurd hq hc))
  have hx' := hx a ha hc
  simp only [execOp, Instr.buildSlice, Sem.run_bind, run_underlying hu, Result.andThen_ok, sizeOf, typeInfo, run_program, hi, Sem.run_pure, hsz, if_neg hm1, if_neg hm2, zeroValue, hz']
  rw [hx', hfill]
  simp [newRow]
end
section
variable {P : Program} {n : Nat} {σ : List Ent} {c : Prop} {wb : World} {ty : TypeId} {v : Value}
theorem rd_sl_from0 {t e z by_ : Nat} {x y : Operand} {o : Option Addr} {m q : Nat} {k : IntKind} (ht : tyElem P t = some (e, z, by_)) (h : Ev n σ c x (.slice o m q)) (h' : Ev n σ c y (.int k 0)) :
    Rd P n σ c wb (.slice t x (some y) none none) ty (.slice o m q) := fun d pos after gd a ha hc w1 _ => by
  obtain ⟨hu, inf, hin, hz, _⟩ := underlying_sl ht
  have e2 : o.map (fun b => Addr.add b 0) = o := by cases o <;> simp [Addr.add]
  simp only [execOp, h a ha hc, h' a ha hc, Instr.sliceAt, Option.map_some, Option.map_none, Sem.run_bind, run_underlying hu, Result.andThen_ok]
  simp [Instr.slice, run_underlying hu, Instr.sliceBounds, Instr.sliceBound, asIntOf, run_size hin, e2]
end
end Go.Rk
namespace Go.Rk
open Go Go.RowKit
def typK (k : Int) : Bool := anyK [7, 8] k
def expK (k : Int) : Bool := anyK [28, 29, 30, 31, 32, 33, 35, 36, 37, 27, 34, 24, 25, 26, 38] k
def stK (k : Int) : Bool := anyK [6, 10, 11, 12, 13, 14, 15, 16, 17, 21, 18, 19, 20, 22] k
def memK (l : List Int) (k : Int) : Bool := decide (k ∈ l)
theorem synname_ok (s : List UInt8) (w : World) (hL : Laid w) (hb3 : 4 ≤ w.heap.size) : Ret PP fn_syntax_name #[Str s] w fun v w' => v = .bool (nameB s) ∧ G w w' := by
  have g := G.refl w
  refine ret_of_sc (m := 34) func_syntax_name rfl rfl [(0, True, _)] (sub_cons rfl (sub_nil _)) ?_
  refine sc_seq fun K1 hK1 => ?_
  refine sc_text [3] ?_
  refine sr_pu rfl (fun _ => rd_assign ev_c) ?_
  refine sr_nil (hK1 _ _ ?_)
  refine sc_seq fun K2 hK2 => ?_
  refine sc_text [3, 1, 3, 3, 3, 3, 3, 3, 3] ?_
  refine sr_pu rfl (fun _ => rd_move (ev_t rfl)) ?_
  refine sr_call rfl (rc_call go_scan_Scan ev_f (args_cons (ev_t rfl) (args_nil)) rfl) (scan_ok s _ (hL.grow g) (by have := g.size; omega)) ?_
  rintro v8 w8 ⟨l, rfl, hT, g8⟩
  obtain ⟨a, c, rfl, hr⟩ := toks_slice hT
  refine ⟨fun _ => g8, ?_⟩
  have g := g.trans g8
  refine sr_pu rfl (fun _ => rd_move (ev_t rfl)) ?_
  refine sr_pu rfl (fun _ => rd_extract (ev_t rfl) rfl) ?_
  refine sr_pu rfl (fun _ => rd_extract (ev_t rfl) rfl) ?_
  refine sr_pu rfl (fun _ => rd_extract (ev_t rfl) rfl) ?_
  refine sr_pu rfl (fun _ => rd_assign (ev_t rfl)) ?_
  refine sr_pu rfl (fun _ => rd_assign (ev_t rfl)) ?_
  refine sr_pu rfl (fun _ => rd_assign (ev_t rfl)) ?_
  refine sr_sub [(0, _, _), (2, _, _), (3, _, _), (5, _, _)] (sub_cons rfl (sub_cons rfl (sub_cons rfl (sub_cons rfl (sub_nil _))))) ?_
  refine sr_nil (hK2 _ _ ?_)
  refine sc_seq fun K3 hK3 => ?_
  refine sc_text [3, 3, 3, 3, 3, 3, 3, 3, 3, 3, 3, 0, 3, 3, 3, 3, 3, 3, 0, 3, 3, 3, 3] ?_
  refine sr_pu rfl (fun _ => rd_move (ev_t rfl)) ?_
  refine sr_pu rfl (fun _ => rd_eq (ev_t rfl) ev_c) ?_
  refine sr_pu rfl (fun _ => rd_move (ev_t rfl)) ?_
  refine sr_pug rfl rfl rfl (fun _ => rd_move (ev_t rfl)) ?_
  refine sr_pug rfl rfl rfl (fun _ => rd_len el_sl_api_Token (ev_u rfl id)) ?_
  refine sr_pug rfl rfl rfl (fun _ => rd_eq (ev_u rfl id) ev_c) ?_
  refine sr_pu rfl (fun _ => rd_pick_and (ev_t rfl) (ev_u rfl id)) ?_
  refine sr_pu rfl (fun _ => rd_move (ev_t rfl)) ?_
  refine sr_pug rfl rfl rfl (fun _ => rd_move (ev_t rfl)) ?_
  refine sr_pug rfl rfl rfl (fun _ => rd_idxq el_sl_api_Token (ev_u rfl id) ev_c (fun hc => by have := of_decide_eq_true (Bool.and_eq_true_iff.1 hc.2).2; omega) (fun hc => (hr (by have := of_decide_eq_true (Bool.and_eq_true_iff.1 hc.2).2; omega)).1)) ?_
  refine sr_pug rfl rfl rfl (fun _ => rd_field fo_api_Token_0 (ev_u rfl id)) ?_
  refine sr_rdg rfl rfl rfl (rd_load one_int (ev_u rfl id) (fun hc => (hr (by have := of_decide_eq_true (Bool.and_eq_true_iff.1 hc.2).2; omega)).2 0 _ rfl)) ?_
  refine sr_pug rfl rfl rfl (fun _ => rd_eq (ev_u rfl id) ev_c) ?_
  refine sr_pu rfl (fun _ => rd_pick_and (ev_t rfl) (ev_u rfl id)) ?_
  refine sr_pu rfl (fun _ => rd_move (ev_t rfl)) ?_
  refine sr_pug rfl rfl rfl (fun _ => rd_move (ev_t rfl)) ?_
  refine sr_pug rfl rfl rfl (fun _ => rd_idxq el_sl_api_Token (ev_u rfl id) ev_c (fun hc => by have := of_decide_eq_true (Bool.and_eq_true_iff.1 (Bool.and_eq_true_iff.1 hc.2).1).2; omega) (fun hc => (hr (by have := of_decide_eq_true (Bool.and_eq_true_iff.1 (Bool.and_eq_true_iff.1 hc.2).1).2; omega)).1)) ?_
  refine sr_pug rfl rfl rfl (fun _ => rd_field fo_api_Token_1 (ev_u rfl id)) ?_
  refine sr_rdg rfl rfl rfl (rd_load one_string (ev_u rfl id) (fun hc => (hr (by have := of_decide_eq_true (Bool.and_eq_true_iff.1 (Bool.and_eq_true_iff.1 hc.2).1).2; omega)).2 1 _ rfl)) ?_
  refine sr_pug rfl rfl rfl (fun _ => rd_move (ev_t rfl)) ?_
  refine sr_pug rfl rfl rfl (fun _ => rd_seq (ev_u rfl id) (ev_u rfl id)) ?_
  refine sr_pu rfl (fun _ => rd_pick_and (ev_t rfl) (ev_u rfl id)) ?_
  refine sr_pu rfl (fun _ => rd_assign (ev_t rfl)) ?_
  refine sr_sub [(2, _, _)] (sub_cons rfl (sub_nil _)) ?_
  refine sr_nil (hK3 _ _ ?_)
  refine sc_ret (t_ret1 rfl rfl ?_)
  refine ⟨congrArg Value.bool ?_, g⟩
  rw [← nameP_eq]; rfl
theorem typed_ok (k : Int) (w : World) : Ret PP fn_syntax_typed #[.int .i64 k] w fun v w' => v = .bool (typK k) ∧ G w w' := by
  have g := G.refl w
  refine ret_of_sc (m := 9) func_syntax_typed rfl rfl [(0, True, _)] (sub_cons rfl (sub_nil _)) ?_
  refine sc_seq fun K1 hK1 => ?_
  refine sc_text [3] ?_
  refine sr_pu rfl (fun _ => rd_assign ev_c) ?_
  refine sr_nil (hK1 _ _ ?_)
  refine sc_seq fun K2 hK2 => ?_
  refine sc_text [3, 3, 3, 3, 3, 3, 3] ?_
  refine sr_pu rfl (fun _ => rd_move (ev_t rfl)) ?_
  refine sr_pu rfl (fun _ => rd_eq (ev_t rfl) ev_c) ?_
  refine sr_pu rfl (fun _ => rd_move (ev_t rfl)) ?_
  refine sr_pug rfl rfl rfl (fun _ => rd_move (ev_t rfl)) ?_
  refine sr_pug rfl rfl rfl (fun _ => rd_eq (ev_u rfl id) ev_c) ?_
  refine sr_pu rfl (fun _ => rd_pick_or (ev_t rfl) (ev_u rfl id)) ?_
  refine sr_pu rfl (fun _ => rd_assign (ev_t rfl)) ?_
  refine sr_sub [(2, _, _)] (sub_cons rfl (sub_nil _)) ?_
  refine sr_nil (hK2 _ _ ?_)
  refine sc_ret (t_ret1 rfl rfl ?_)
  exact ⟨rfl, g⟩
theorem expression_ok (k : Int) (w : World) : Ret PP fn_syntax_expression #[.int .i64 k] w fun v w' => v = .bool (expK k) ∧ G w w' := by
  have g := G.refl w
  refine ret_of_sc (m := 20) func_syntax_expression rfl rfl [(0, True, _)] (sub_cons rfl (sub_nil _)) ?_
  refine sc_seq fun K1 hK1 => ?_
  refine sc_text [3] ?_
  refine sr_pu rfl (fun _ => rd_assign ev_c) ?_
  refine sr_nil (hK1 _ _ ?_)
  refine sc_seq fun K2 hK2 => ?_
  refine sc_seq fun K3 hK3 => ?_
  refine sc_text [3] ?_
  refine sr_pu rfl (fun _ => rd_move (ev_t rfl)) ?_
  refine sr_sub [(2, _, _), (3, _, _)] (sub_cons rfl (sub_cons rfl (sub_nil _))) ?_
  refine sr_nil (hK3 _ _ ?_)
  refine sc_block ?_
  refine sc_seq fun K4 hK4 => ?_
  refine sc_seq fun K5 hK5 => ?_
  refine sc_text [3, 3] ?_
  refine sr_pu rfl (fun _ => rd_eq (ev_t rfl) ev_c) ?_
  refine sr_pu rfl (fun _ => rd_assign (ev_t rfl)) ?_
  refine sr_sub [(2, _, _), (3, _, _), (4, _, _)] (sub_cons rfl (sub_cons rfl (sub_cons rfl (sub_nil _)))) ?_
  refine sr_nil (hK5 _ _ ?_)
  refine' sc_or [(2, _, _)] (sub_cons rfl (sub_cons rfl (sub_nil _))) rfl (fun hb1 => ?y1) (hK4 _ _ ?n1)
  case y1 =>
   refine sc_seq fun K6 hK6 => ?_
   refine sc_text [3, 3] ?_
   refine sr_pu rfl (fun _ => rd_eq (ev_t rfl) ev_c) ?_
   refine sr_pu rfl (fun _ => rd_assign (ev_t rfl)) ?_
   refine sr_sub [(2, _, _), (3, _, _), (4, _, _)] (sub_cons rfl (sub_cons rfl (sub_cons rfl (sub_nil _)))) ?_
   refine sr_nil (hK6 _ _ ?_)
   refine' sc_or [(2, _, _)] (sub_cons rfl (sub_cons rfl (sub_nil _))) rfl (fun hb2 => ?y2) (fun a ha => ⟨ha, rfl⟩)
   case y2 =>
    refine sc_seq fun K7 hK7 => ?_
    refine sc_text [3, 3] ?_
    refine sr_pu rfl (fun _ => rd_eq (ev_t rfl) ev_c) ?_
    refine sr_pu rfl (fun _ => rd_assign (ev_t rfl)) ?_
    refine sr_sub [(2, _, _), (3, _, _), (4, _, _)] (sub_cons rfl (sub_cons rfl (sub_cons rfl (sub_nil _)))) ?_
    refine sr_nil (hK7 _ _ ?_)
    refine' sc_or [(2, _, _)] (sub_cons rfl (sub_cons rfl (sub_nil _))) rfl (fun hb3 => ?y3) (fun a ha => ⟨ha, rfl⟩)
    case y3 =>
     refine sc_seq fun K8 hK8 => ?_
     refine sc_text [3, 3] ?_
     refine sr_pu rfl (fun _ => rd_eq (ev_t rfl) ev_c) ?_
     refine sr_pu rfl (fun _ => rd_assign (ev_t rfl)) ?_
     refine sr_sub [(2, _, _), (3, _, _), (4, _, _)] (sub_cons rfl (sub_cons rfl (sub_cons rfl (sub_nil _)))) ?_
     refine sr_nil (hK8 _ _ ?_)
     refine' sc_or [(2, _, _)] (sub_cons rfl (sub_cons rfl (sub_nil _))) rfl (fun hb4 => ?y4) (fun a ha => ⟨ha, rfl⟩)
     case y4 =>
      refine sc_seq fun K9 hK9 => ?_
      refine sc_text [3, 3] ?_
      refine sr_pu rfl (fun _ => rd_eq (ev_t rfl) ev_c) ?_
      refine sr_pu rfl (fun _ => rd_assign (ev_t rfl)) ?_
      refine sr_sub [(2, _, _), (3, _, _), (4, _, _)] (sub_cons rfl (sub_cons rfl (sub_cons rfl (sub_nil _)))) ?_
      refine sr_nil (hK9 _ _ ?_)
      refine' sc_or [(2, _, _)] (sub_cons rfl (sub_cons rfl (sub_nil _))) rfl (fun hb5 => ?y5) (fun a ha => ⟨ha, rfl⟩)
      case y5 =>
       refine sc_seq fun K10 hK10 => ?_
       refine sc_text [3, 3] ?_
       refine sr_pu rfl (fun _ => rd_eq (ev_t rfl) ev_c) ?_
       refine sr_pu rfl (fun _ => rd_assign (ev_t rfl)) ?_
       refine sr_sub [(2, _, _), (3, _, _), (4, _, _)] (sub_cons rfl (sub_cons rfl (sub_cons rfl (sub_nil _)))) ?_
       refine sr_nil (hK10 _ _ ?_)
       refine' sc_or [(2, _, _)] (sub_cons rfl (sub_cons rfl (sub_nil _))) rfl (fun hb6 => ?y6) (fun a ha => ⟨ha, rfl⟩)
       case y6 =>
        refine sc_seq fun K11 hK11 => ?_
        refine sc_text [3, 3] ?_
        refine sr_pu rfl (fun _ => rd_eq (ev_t rfl) ev_c) ?_
        refine sr_pu rfl (fun _ => rd_assign (ev_t rfl)) ?_
        refine sr_sub [(2, _, _), (3, _, _), (4, _, _)] (sub_cons rfl (sub_cons rfl (sub_cons rfl (sub_nil _)))) ?_
        refine sr_nil (hK11 _ _ ?_)
        refine' sc_or [(2, _, _)] (sub_cons rfl (sub_cons rfl (sub_nil _))) rfl (fun hb7 => ?y7) (fun a ha => ⟨ha, rfl⟩)
        case y7 =>
         refine sc_seq fun K12 hK12 => ?_
         refine sc_text [3, 3] ?_
         refine sr_pu rfl (fun _ => rd_eq (ev_t rfl) ev_c) ?_
         refine sr_pu rfl (fun _ => rd_assign (ev_t rfl)) ?_
         refine sr_sub [(2, _, _), (3, _, _), (4, _, _)] (sub_cons rfl (sub_cons rfl (sub_cons rfl (sub_nil _)))) ?_
         refine sr_nil (hK12 _ _ ?_)
         refine' sc_or [(2, _, _)] (sub_cons rfl (sub_cons rfl (sub_nil _))) rfl (fun hb8 => ?y8) (fun a ha => ⟨ha, rfl⟩)
         case y8 =>
          refine sc_seq fun K13 hK13 => ?_
          refine sc_text [3, 3] ?_
          refine sr_pu rfl (fun _ => rd_eq (ev_t rfl) ev_c) ?_
          refine sr_pu rfl (fun _ => rd_assign (ev_t rfl)) ?_
          refine sr_sub [(2, _, _), (3, _, _), (4, _, _)] (sub_cons rfl (sub_cons rfl (sub_cons rfl (sub_nil _)))) ?_
          refine sr_nil (hK13 _ _ ?_)
          refine' sc_or [(2, _, _)] (sub_cons rfl (sub_cons rfl (sub_nil _))) rfl (fun hb9 => ?y9) (fun a ha => ⟨ha, rfl⟩)
          case y9 =>
           refine sc_seq fun K14 hK14 => ?_
           refine sc_text [3, 3] ?_
           refine sr_pu rfl (fun _ => rd_eq (ev_t rfl) ev_c) ?_
           refine sr_pu rfl (fun _ => rd_assign (ev_t rfl)) ?_
           refine sr_sub [(2, _, _), (3, _, _), (4, _, _)] (sub_cons rfl (sub_cons rfl (sub_cons rfl (sub_nil _)))) ?_
           refine sr_nil (hK14 _ _ ?_)
           refine' sc_or [(2, _, _)] (sub_cons rfl (sub_cons rfl (sub_nil _))) rfl (fun hb10 => ?y10) (fun a ha => ⟨ha, rfl⟩)
           case y10 =>
            refine sc_seq fun K15 hK15 => ?_
            refine sc_text [3, 3] ?_
            refine sr_pu rfl (fun _ => rd_eq (ev_t rfl) ev_c) ?_
            refine sr_pu rfl (fun _ => rd_assign (ev_t rfl)) ?_
            refine sr_sub [(2, _, _), (3, _, _), (4, _, _)] (sub_cons rfl (sub_cons rfl (sub_cons rfl (sub_nil _)))) ?_
            refine sr_nil (hK15 _ _ ?_)
            refine' sc_or [(2, _, _)] (sub_cons rfl (sub_cons rfl (sub_nil _))) rfl (fun hb11 => ?y11) (fun a ha => ⟨ha, rfl⟩)
            case y11 =>
             refine sc_seq fun K16 hK16 => ?_
             refine sc_text [3, 3] ?_
             refine sr_pu rfl (fun _ => rd_eq (ev_t rfl) ev_c) ?_
             refine sr_pu rfl (fun _ => rd_assign (ev_t rfl)) ?_
             refine sr_sub [(2, _, _), (3, _, _), (4, _, _)] (sub_cons rfl (sub_cons rfl (sub_cons rfl (sub_nil _)))) ?_
             refine sr_nil (hK16 _ _ ?_)
             refine' sc_or [(2, _, _)] (sub_cons rfl (sub_cons rfl (sub_nil _))) rfl (fun hb12 => ?y12) (fun a ha => ⟨ha, rfl⟩)
             case y12 =>
              refine sc_seq fun K17 hK17 => ?_
              refine sc_text [3, 3] ?_
              refine sr_pu rfl (fun _ => rd_eq (ev_t rfl) ev_c) ?_
              refine sr_pu rfl (fun _ => rd_assign (ev_t rfl)) ?_
              refine sr_sub [(2, _, _), (3, _, _), (4, _, _)] (sub_cons rfl (sub_cons rfl (sub_cons rfl (sub_nil _)))) ?_
              refine sr_nil (hK17 _ _ ?_)
              refine' sc_or [(2, _, _)] (sub_cons rfl (sub_cons rfl (sub_nil _))) rfl (fun hb13 => ?y13) (fun a ha => ⟨ha, rfl⟩)
              case y13 =>
               refine sc_seq fun K18 hK18 => ?_
               refine sc_text [3, 3] ?_
               refine sr_pu rfl (fun _ => rd_eq (ev_t rfl) ev_c) ?_
               refine sr_pu rfl (fun _ => rd_assign (ev_t rfl)) ?_
               refine sr_sub [(2, _, _), (3, _, _), (4, _, _)] (sub_cons rfl (sub_cons rfl (sub_cons rfl (sub_nil _)))) ?_
               refine sr_nil (hK18 _ _ ?_)
               refine' sc_or [(2, _, _)] (sub_cons rfl (sub_cons rfl (sub_nil _))) rfl (fun hb14 => ?y14) (fun a ha => ⟨ha, rfl⟩)
               case y14 =>
                refine sc_text [3, 3] ?_
                refine sr_pu rfl (fun _ => rd_eq (ev_t rfl) ev_c) ?_
                refine sr_pu rfl (fun _ => rd_assign (ev_t rfl)) ?_
                refine sr_sub [(4, _, _), (2, _, _)] (sub_cons rfl (sub_cons rfl (sub_nil _))) ?_
                exact sr_nil (fun a ha => ⟨ha, rfl⟩)
  case n1 =>
   refine sc_cond (ev_t rfl) (fun h15 => ?_) (fun h15 => ?_)
   · (try simp only [bsimp] at h15)
     refine sc_seq fun K19 hK19 => ?_
     refine sc_text [3] ?_
     refine sr_pu rfl (fun _ => rd_assign ev_c) ?_
     refine sr_sub [(2, _, _)] (sub_cons rfl (sub_nil _)) ?_
     refine sr_nil (hK19 _ _ ?_)
     refine sc_ret (t_ret1 rfl rfl ?_)
     refine ⟨congrArg Value.bool ?_, g⟩
     simp only [expK, anyK]; exact (h15).symm
   (try simp only [bsimp] at h15)
   refine sc_skip (hK2 _ _ ?_)
   refine sc_sub [(2, _, _)] (sub_cons rfl (sub_nil _)) ?_
   refine sc_seq fun K20 hK20 => ?_
   refine sc_text [3] ?_
   refine sr_pu rfl (fun _ => rd_assign ev_c) ?_
   refine sr_nil (hK20 _ _ ?_)
   refine sc_ret (t_ret1 rfl rfl ?_)
   refine ⟨congrArg Value.bool ?_, g⟩
   simp only [expK, anyK]; exact (h15).symm
theorem statement_ok (k : Int) (w : World) : Ret PP fn_syntax_statement #[.int .i64 k] w fun v w' => v = .bool (stK k) ∧ G w w' := by
  have g := G.refl w
  refine ret_of_sc (m := 19) func_syntax_statement rfl rfl [(0, True, _)] (sub_cons rfl (sub_nil _)) ?_
  refine sc_seq fun K1 hK1 => ?_
  refine sc_text [3] ?_
  refine sr_pu rfl (fun _ => rd_assign ev_c) ?_
  refine sr_nil (hK1 _ _ ?_)
  refine sc_seq fun K2 hK2 => ?_
  refine sc_seq fun K3 hK3 => ?_
  refine sc_text [3] ?_
  refine sr_pu rfl (fun _ => rd_move (ev_t rfl)) ?_
  refine sr_sub [(2, _, _), (3, _, _)] (sub_cons rfl (sub_cons rfl (sub_nil _))) ?_
  refine sr_nil (hK3 _ _ ?_)
  refine sc_block ?_
  refine sc_seq fun K4 hK4 => ?_
  refine sc_seq fun K5 hK5 => ?_
  refine sc_text [3, 3] ?_
  refine sr_pu rfl (fun _ => rd_eq (ev_t rfl) ev_c) ?_
  refine sr_pu rfl (fun _ => rd_assign (ev_t rfl)) ?_
  refine sr_sub [(2, _, _), (3, _, _), (4, _, _)] (sub_cons rfl (sub_cons rfl (sub_cons rfl (sub_nil _)))) ?_
  refine sr_nil (hK5 _ _ ?_)
  refine' sc_or [(2, _, _)] (sub_cons rfl (sub_cons rfl (sub_nil _))) rfl (fun hb1 => ?y1) (hK4 _ _ ?n1)
  case y1 =>
   refine sc_seq fun K6 hK6 => ?_
   refine sc_text [3, 3] ?_
   refine sr_pu rfl (fun _ => rd_eq (ev_t rfl) ev_c) ?_
   refine sr_pu rfl (fun _ => rd_assign (ev_t rfl)) ?_
   refine sr_sub [(2, _, _), (3, _, _), (4, _, _)] (sub_cons rfl (sub_cons rfl (sub_cons rfl (sub_nil _)))) ?_
   refine sr_nil (hK6 _ _ ?_)
   refine' sc_or [(2, _, _)] (sub_cons rfl (sub_cons rfl (sub_nil _))) rfl (fun hb2 => ?y2) (fun a ha => ⟨ha, rfl⟩)
   case y2 =>
    refine sc_seq fun K7 hK7 => ?_
    refine sc_text [3, 3] ?_
    refine sr_pu rfl (fun _ => rd_eq (ev_t rfl) ev_c) ?_
    refine sr_pu rfl (fun _ => rd_assign (ev_t rfl)) ?_
    refine sr_sub [(2, _, _), (3, _, _), (4, _, _)] (sub_cons rfl (sub_cons rfl (sub_cons rfl (sub_nil _)))) ?_
    refine sr_nil (hK7 _ _ ?_)
    refine' sc_or [(2, _, _)] (sub_cons rfl (sub_cons rfl (sub_nil _))) rfl (fun hb3 => ?y3) (fun a ha => ⟨ha, rfl⟩)
    case y3 =>
     refine sc_seq fun K8 hK8 => ?_
     refine sc_text [3, 3] ?_
     refine sr_pu rfl (fun _ => rd_eq (ev_t rfl) ev_c) ?_
     refine sr_pu rfl (fun _ => rd_assign (ev_t rfl)) ?_
     refine sr_sub [(2, _, _), (3, _, _), (4, _, _)] (sub_cons rfl (sub_cons rfl (sub_cons rfl (sub_nil _)))) ?_
     refine sr_nil (hK8 _ _ ?_)
     refine' sc_or [(2, _, _)] (sub_cons rfl (sub_cons rfl (sub_nil _))) rfl (fun hb4 => ?y4) (fun a ha => ⟨ha, rfl⟩)
     case y4 =>
      refine sc_seq fun K9 hK9 => ?_
      refine sc_text [3, 3] ?_
      refine sr_pu rfl (fun _ => rd_eq (ev_t rfl) ev_c) ?_
      refine sr_pu rfl (fun _ => rd_assign (ev_t rfl)) ?_
      refine sr_sub [(2, _, _), (3, _, _), (4, _, _)] (sub_cons rfl (sub_cons rfl (sub_cons rfl (sub_nil _)))) ?_
      refine sr_nil (hK9 _ _ ?_)
      refine' sc_or [(2, _, _)] (sub_cons rfl (sub_cons rfl (sub_nil _))) rfl (fun hb5 => ?y5) (fun a ha => ⟨ha, rfl⟩)
      case y5 =>
       refine sc_seq fun K10 hK10 => ?_
       refine sc_text [3, 3] ?_
       refine sr_pu rfl (fun _ => rd_eq (ev_t rfl) ev_c) ?_
       refine sr_pu rfl (fun _ => rd_assign (ev_t rfl)) ?_
       refine sr_sub [(2, _, _), (3, _, _), (4, _, _)] (sub_cons rfl (sub_cons rfl (sub_cons rfl (sub_nil _)))) ?_
       refine sr_nil (hK10 _ _ ?_)
       refine' sc_or [(2, _, _)] (sub_cons rfl (sub_cons rfl (sub_nil _))) rfl (fun hb6 => ?y6) (fun a ha => ⟨ha, rfl⟩)
       case y6 =>
        refine sc_seq fun K11 hK11 => ?_
        refine sc_text [3, 3] ?_
        refine sr_pu rfl (fun _ => rd_eq (ev_t rfl) ev_c) ?_
        refine sr_pu rfl (fun _ => rd_assign (ev_t rfl)) ?_
        refine sr_sub [(2, _, _), (3, _, _), (4, _, _)] (sub_cons rfl (sub_cons rfl (sub_cons rfl (sub_nil _)))) ?_
        refine sr_nil (hK11 _ _ ?_)
        refine' sc_or [(2, _, _)] (sub_cons rfl (sub_cons rfl (sub_nil _))) rfl (fun hb7 => ?y7) (fun a ha => ⟨ha, rfl⟩)
        case y7 =>
         refine sc_seq fun K12 hK12 => ?_
         refine sc_text [3, 3] ?_
         refine sr_pu rfl (fun _ => rd_eq (ev_t rfl) ev_c) ?_
         refine sr_pu rfl (fun _ => rd_assign (ev_t rfl)) ?_
         refine sr_sub [(2, _, _), (3, _, _), (4, _, _)] (sub_cons rfl (sub_cons rfl (sub_cons rfl (sub_nil _)))) ?_
         refine sr_nil (hK12 _ _ ?_)
         refine' sc_or [(2, _, _)] (sub_cons rfl (sub_cons rfl (sub_nil _))) rfl (fun hb8 => ?y8) (fun a ha => ⟨ha, rfl⟩)
         case y8 =>
          refine sc_seq fun K13 hK13 => ?_
          refine sc_text [3, 3] ?_
          refine sr_pu rfl (fun _ => rd_eq (ev_t rfl) ev_c) ?_
          refine sr_pu rfl (fun _ => rd_assign (ev_t rfl)) ?_
          refine sr_sub [(2, _, _), (3, _, _), (4, _, _)] (sub_cons rfl (sub_cons rfl (sub_cons rfl (sub_nil _)))) ?_
          refine sr_nil (hK13 _ _ ?_)
          refine' sc_or [(2, _, _)] (sub_cons rfl (sub_cons rfl (sub_nil _))) rfl (fun hb9 => ?y9) (fun a ha => ⟨ha, rfl⟩)
          case y9 =>
           refine sc_seq fun K14 hK14 => ?_
           refine sc_text [3, 3] ?_
           refine sr_pu rfl (fun _ => rd_eq (ev_t rfl) ev_c) ?_
           refine sr_pu rfl (fun _ => rd_assign (ev_t rfl)) ?_
           refine sr_sub [(2, _, _), (3, _, _), (4, _, _)] (sub_cons rfl (sub_cons rfl (sub_cons rfl (sub_nil _)))) ?_
           refine sr_nil (hK14 _ _ ?_)
           refine' sc_or [(2, _, _)] (sub_cons rfl (sub_cons rfl (sub_nil _))) rfl (fun hb10 => ?y10) (fun a ha => ⟨ha, rfl⟩)
           case y10 =>
            refine sc_seq fun K15 hK15 => ?_
            refine sc_text [3, 3] ?_
            refine sr_pu rfl (fun _ => rd_eq (ev_t rfl) ev_c) ?_
            refine sr_pu rfl (fun _ => rd_assign (ev_t rfl)) ?_
            refine sr_sub [(2, _, _), (3, _, _), (4, _, _)] (sub_cons rfl (sub_cons rfl (sub_cons rfl (sub_nil _)))) ?_
            refine sr_nil (hK15 _ _ ?_)
            refine' sc_or [(2, _, _)] (sub_cons rfl (sub_cons rfl (sub_nil _))) rfl (fun hb11 => ?y11) (fun a ha => ⟨ha, rfl⟩)
            case y11 =>
             refine sc_seq fun K16 hK16 => ?_
             refine sc_text [3, 3] ?_
             refine sr_pu rfl (fun _ => rd_eq (ev_t rfl) ev_c) ?_
             refine sr_pu rfl (fun _ => rd_assign (ev_t rfl)) ?_
             refine sr_sub [(2, _, _), (3, _, _), (4, _, _)] (sub_cons rfl (sub_cons rfl (sub_cons rfl (sub_nil _)))) ?_
             refine sr_nil (hK16 _ _ ?_)
             refine' sc_or [(2, _, _)] (sub_cons rfl (sub_cons rfl (sub_nil _))) rfl (fun hb12 => ?y12) (fun a ha => ⟨ha, rfl⟩)
             case y12 =>
              refine sc_seq fun K17 hK17 => ?_
              refine sc_text [3, 3] ?_
              refine sr_pu rfl (fun _ => rd_eq (ev_t rfl) ev_c) ?_
              refine sr_pu rfl (fun _ => rd_assign (ev_t rfl)) ?_
              refine sr_sub [(2, _, _), (3, _, _), (4, _, _)] (sub_cons rfl (sub_cons rfl (sub_cons rfl (sub_nil _)))) ?_
              refine sr_nil (hK17 _ _ ?_)
              refine' sc_or [(2, _, _)] (sub_cons rfl (sub_cons rfl (sub_nil _))) rfl (fun hb13 => ?y13) (fun a ha => ⟨ha, rfl⟩)
              case y13 =>
               refine sc_text [3, 3] ?_
               refine sr_pu rfl (fun _ => rd_eq (ev_t rfl) ev_c) ?_
               refine sr_pu rfl (fun _ => rd_assign (ev_t rfl)) ?_
               refine sr_sub [(4, _, _), (2, _, _)] (sub_cons rfl (sub_cons rfl (sub_nil _))) ?_
               exact sr_nil (fun a ha => ⟨ha, rfl⟩)
  case n1 =>
   refine sc_cond (ev_t rfl) (fun h14 => ?_) (fun h14 => ?_)
   · (try simp only [bsimp] at h14)
     refine sc_seq fun K18 hK18 => ?_
     refine sc_text [3] ?_
     refine sr_pu rfl (fun _ => rd_assign ev_c) ?_
     refine sr_sub [(2, _, _)] (sub_cons rfl (sub_nil _)) ?_
     refine sr_nil (hK18 _ _ ?_)
     refine sc_ret (t_ret1 rfl rfl ?_)
     refine ⟨congrArg Value.bool ?_, g⟩
     simp only [stK, anyK]; exact (h14).symm
   (try simp only [bsimp] at h14)
   refine sc_skip (hK2 _ _ ?_)
   refine sc_sub [(2, _, _)] (sub_cons rfl (sub_nil _)) ?_
   refine sc_seq fun K19 hK19 => ?_
   refine sc_text [3] ?_
   refine sr_pu rfl (fun _ => rd_assign ev_c) ?_
   refine sr_nil (hK19 _ _ ?_)
   refine sc_ret (t_ret1 rfl rfl ?_)
   refine ⟨congrArg Value.bool ?_, g⟩
   simp only [stK, anyK]; exact (h14).symm
theorem among1_ok (l : List Int) (b : Nat) (p : Option Addr) (c : Nat) (k : Int) (w : World) (hB : Blk w b ty_sl_int [.slice p l.length c]) (hp : 0 < l.length → ∃ b o, p = some ⟨b, o, none⟩ ∧ RowAt w b o (l.map (Value.int .i64))) (hl : l.length ≤ 1000) :
    Ret PP fn_syntax_among_1 #[.int .i64 k, .pointer (some ⟨b, 0, none⟩)] w fun v w' => v = .bool (memK l k) ∧ G w w' := by
  have g := G.refl w
  refine ret_of_sc (m := 16) func_syntax_among_1 rfl rfl [(0, True, _), (1, True, _)] (sub_cons rfl (sub_cons rfl (sub_nil _))) ?_
  refine sc_seq fun K1 hK1 => ?_
  refine sc_text [3] ?_
  refine sr_pu rfl (fun _ => rd_assign ev_c) ?_
  refine sr_nil (hK1 _ _ ?_)
  refine sc_seq fun K2 hK2 => ?_
  refine sc_seq fun K3 hK3 => ?_
  refine sc_text [0, 3, 3] ?_
  refine sr_rd rfl (rd_load one_sl_int (ev_t rfl) (fun _ => (hB.grow g).at_ rfl)) ?_
  refine sr_pu rfl (fun _ => rd_len el_sl_int (ev_t rfl)) ?_
  refine sr_pu rfl (fun _ => rd_move ev_c) ?_
  refine sr_sub [(0, _, _), (3, _, _), (6, _, _), (7, _, _), (8, _, _)] (sub_cons rfl (sub_cons rfl (sub_cons rfl (sub_cons rfl (sub_cons rfl (sub_nil _)))))) ?_
  refine sr_nil (hK3 _ _ ?_)
  refine sc_block ?_
  refine sc_loop2 (fun (i : Nat) u1 => (i ≤ l.length ∧ ∀ j, (h : j < l.length) → j < i → l[j] ≠ k) ∧ G w u1) [(0, True, _), (6, True, _), (7, True, _)] (fun (i : Nat) => [(8, True, .int .i64 i)]) (fun (i : Nat) => l.length - i) (0) ⟨⟨Nat.zero_le _, fun j _ hj => absurd hj (Nat.not_lt_zero j)⟩, G.refl _⟩ (sub_cons rfl (sub_cons rfl (sub_cons rfl (sub_cons rfl (sub_nil _))))) ?_
  rintro i u1 ⟨hI1, gl1⟩
  have g := g.trans gl1
  refine sc_seq fun K4 hK4 => ?_
  refine sc_text [3] ?_
  refine sr_pu rfl (fun _ => rd_lt (ev_t rfl) (ev_t rfl)) ?_
  refine sr_nil (hK4 _ _ ?_)
  refine sc_sub [(0, _, _), (6, _, _), (7, _, _), (8, _, _), (9, _, _)] (sub_cons rfl (sub_cons rfl (sub_cons rfl (sub_cons rfl (sub_cons rfl (sub_nil _)))))) ?_
  refine sc_seq fun K5 hK5 => ?_
  refine sc_cond (ev_t rfl) (fun h1 => ?_) (fun h1 => ?_)
  · replace h1 : i < l.length := by simp only [decide_eq_true_eq] at h1; omega
    obtain ⟨b2, o2, rfl, hR⟩ := hp (by omega)
    have hv : (l.map (Value.int .i64))[i * 1]? = some (.int .i64 l[i]) := by simp [h1]
    refine sc_skip (hK5 _ _ ?_)
    refine sc_sub [(0, _, _), (6, _, _), (7, _, _), (8, _, _)] (sub_cons rfl (sub_cons rfl (sub_cons rfl (sub_cons rfl (sub_nil _))))) ?_
    refine sc_seq fun K6 hK6 => ?_
    refine sc_block ?_
    refine sc_seq fun K7 hK7 => ?_
    refine sc_text [3, 0, 3] ?_
    refine sr_pu rfl (fun _ => rd_idx el_sl_int (ev_t rfl) (ev_t rfl) (fun _ => by omega)) ?_
    refine sr_rd rfl (rd_load one_int (ev_t rfl) (fun _ => (hR.grow g) _ _ hv)) ?_
    refine sr_pu rfl (fun _ => rd_assign (ev_t rfl)) ?_
    refine sr_sub [(0, _, _), (5, _, _), (6, _, _), (7, _, _), (8, _, _)] (sub_cons rfl (sub_cons rfl (sub_cons rfl (sub_cons rfl (sub_cons rfl (sub_nil _)))))) ?_
    refine sr_nil (hK7 _ _ ?_)
    refine sc_seq fun K8 hK8 => ?_
    refine sc_text [3, 3, 3] ?_
    refine sr_pu rfl (fun _ => rd_move (ev_t rfl)) ?_
    refine sr_pu rfl (fun _ => rd_move (ev_t rfl)) ?_
    refine sr_pu rfl (fun _ => rd_eq (ev_t rfl) (ev_t rfl)) ?_
    refine sr_sub [(0, _, _), (6, _, _), (7, _, _), (8, _, _), (14, _, _)] (sub_cons rfl (sub_cons rfl (sub_cons rfl (sub_cons rfl (sub_cons rfl (sub_nil _)))))) ?_
    refine sr_nil (hK8 _ _ ?_)
    refine sc_cond (ev_t rfl) (fun h2 => ?_) (fun h2 => ?_)
    · simp only [decide_eq_true_eq] at h2
      refine sc_seq fun K9 hK9 => ?_
      refine sc_text [3] ?_
      refine sr_pu rfl (fun _ => rd_assign ev_c) ?_
      refine sr_sub [(0, _, _), (3, _, _), (6, _, _), (7, _, _), (8, _, _)] (sub_cons rfl (sub_cons rfl (sub_cons rfl (sub_cons rfl (sub_cons rfl (sub_nil _)))))) ?_
      refine sr_nil (hK9 _ _ ?_)
      refine sc_ret (t_ret1 rfl rfl ?_)
      refine ⟨congrArg Value.bool ?_, g⟩
      rw [memK, eq_comm, decide_eq_true_eq, ← h2]; exact List.getElem_mem h1
    simp only [decide_eq_false_iff_not] at h2
    refine sc_skip (hK6 _ _ ?_)
    refine sc_sub [(0, _, _), (6, _, _), (7, _, _), (8, _, _)] (sub_cons rfl (sub_cons rfl (sub_cons rfl (sub_cons rfl (sub_nil _))))) ?_
    refine sc_text [3, 3] ?_
    refine sr_pu rfl (fun _ => rd_add (ev_t rfl) ev_c (fun _ => by omega)) ?_
    refine sr_pu rfl (fun _ => rd_move (ev_t rfl)) ?_
    refine sr_sub [(8, _, _), (0, _, _), (6, _, _), (7, _, _)] (sub_cons rfl (sub_cons rfl (sub_cons rfl (sub_cons rfl (sub_nil _))))) ?_
    refine sr_nil (fun a ha => ?_)
    refine ⟨i + 1, ha, ⟨⟨h1, fun j h hj => ?_⟩, gl1⟩, by omega⟩
    by_cases e : j = i
    · subst e; exact h2
    · exact hI1.2 j h (by omega)
  (try simp only [bsimp] at h1)
  refine sc_exit rfl (hK2 _ _ ?_)
  refine sc_sub [] (sub_nil _) ?_
  refine sc_seq fun K10 hK10 => ?_
  refine sc_text [3] ?_
  refine sr_pu rfl (fun _ => rd_assign ev_c) ?_
  refine sr_nil (hK10 _ _ ?_)
  refine sc_ret (t_ret1 rfl rfl ?_)
  refine ⟨congrArg Value.bool ?_, g⟩
  rw [memK, eq_comm, decide_eq_false_iff_not]
  intro hm
  obtain ⟨j, hj, e⟩ := List.getElem_of_mem hm
  simp only [decide_eq_false_iff_not] at h1
  exact hI1.2 j hj (by omega) e
theorem among_ok (l : List Int) (b o c : Nat) (w : World) (hR : RowAt w b o (l.map (Value.int .i64))) (hl : l.length ≤ 1000) : Ret PP fn_syntax_among #[.slice (some ⟨b, o, none⟩) l.length c] w fun v w' => FnV PP (memK l) v w' ∧ G w w' := by
  have g := G.refl w
  refine ret_of_sc (m := 4) func_syntax_among rfl rfl [(0, True, _)] (sub_cons rfl (sub_nil _)) ?_
  refine sc_seq fun K1 hK1 => ?_
  refine sc_text [1, 3] ?_
  refine sr_box rfl (ev_t rfl) rfl ?_
  intro b1 w1 N1
  have l1 := N1.ge g
  have g := g.trans (N1.g)
  have B1 := N1.blk
  refine sr_pu rfl (fun _ => rd_assign ev_c) ?_
  refine sr_sub [(1, _, _), (2, _, _)] (sub_cons rfl (sub_cons rfl (sub_nil _))) ?_
  refine sr_nil (hK1 _ _ ?_)
  refine sc_seq fun K2 hK2 => ?_
  refine sc_text [3, 3] ?_
  refine sr_pu rfl (fun _ => rd_func (args_nil) (args_cons (ev_t rfl) (args_nil))) ?_
  refine sr_pu rfl (fun _ => rd_assign (ev_t rfl)) ?_
  refine sr_sub [(2, _, _)] (sub_cons rfl (sub_nil _)) ?_
  refine sr_nil (hK2 _ _ ?_)
  refine sc_ret (t_ret1 rfl rfl ?_)
  refine ⟨⟨_, _, _, rfl, go_syntax_among_1, fun k w' g' => ?_⟩, g⟩
  exact among1_ok l _ _ _ k w' (B1.grow g') (fun _ => ⟨b, o, rfl, (hR.grow g).grow g'⟩) hl
theorem either1_ok (q r : Int → Bool) (f h : Value) (b1 b2 : Nat) (k : Int) (w : World) (h1 : Blk w b1 ty_func_int_bool [f]) (h2 : Blk w b2 ty_func_int_bool [h]) (hF : FnV PP q f w) (hH : FnV PP r h w) :
    Ret PP fn_syntax_either_1 #[.int .i64 k, .pointer (some ⟨b1, 0, none⟩), .pointer (some ⟨b2, 0, none⟩)] w fun v w' => v = .bool (q k || r k) ∧ G w w' := by
  have g := G.refl w
  obtain ⟨f0, fs0, cs0, rfl, hgo0, hf0⟩ := hF
  obtain ⟨f1, fs1, cs1, rfl, hgo1, hf1⟩ := hH
  refine ret_of_sc (m := 13) func_syntax_either_1 rfl rfl [(0, True, _), (1, True, _), (2, True, _)] (sub_cons rfl (sub_cons rfl (sub_cons rfl (sub_nil _)))) ?_
  refine sc_seq fun K1 hK1 => ?_
  refine sc_text [3] ?_
  refine sr_pu rfl (fun _ => rd_assign ev_c) ?_
  refine sr_nil (hK1 _ _ ?_)
  refine sc_seq fun K2 hK2 => ?_
  refine sc_text [0, 3, 1, 3, 0, 3, 1, 3, 3] ?_
  refine sr_rd rfl (rd_load one_func_int_bool (ev_t rfl) (fun _ => (h1.grow g).at_ rfl)) ?_
  refine sr_pu rfl (fun _ => rd_move (ev_t rfl)) ?_
  refine sr_pure rfl (rc_call hgo0 (ev_t rfl) (args_cons (ev_t rfl) (args_nil)) rfl) (hf0 k _ g) (fun w7 g7 => ?_)
  have g := g.trans (g7)
  refine sr_pu rfl (fun _ => rd_move (ev_t rfl)) ?_
  refine sr_rdg rfl rfl rfl (rd_load one_func_int_bool (ev_t rfl) (fun _ => (h2.grow g).at_ rfl)) ?_
  refine sr_pug rfl rfl rfl (fun _ => rd_move (ev_t rfl)) ?_
  refine sr_pureg rfl rfl rfl (fun _ => (rc_call hgo1 (ev_u rfl id) (args_cons (ev_u rfl id) (args_nil)) rfl)) (fun hc => hf1 k _ g) (fun w11 g11 => ?_)
  have g := g.trans (g11)
  refine sr_pu rfl (fun _ => rd_pick_or (ev_t rfl) (ev_u rfl id)) ?_
  refine sr_pu rfl (fun _ => rd_assign (ev_t rfl)) ?_
  refine sr_sub [(4, _, _)] (sub_cons rfl (sub_nil _)) ?_
  refine sr_nil (hK2 _ _ ?_)
  refine sc_ret (t_ret1 rfl rfl ?_)
  exact ⟨rfl, g⟩
theorem either_ok (q : Int → Bool) (l : List Int) (f : Value) (b o c : Nat) (w : World) (hF : FnV PP q f w) (hR : RowAt w b o (l.map (Value.int .i64))) (hl : l.length ≤ 1000) : Ret PP fn_syntax_either #[f, .slice (some ⟨b, o, none⟩) l.length c] w fun v w' => FnV PP (fun k => q k || memK l k) v w' ∧ G w w' := by
  have g := G.refl w
  have hF0 := hF
  obtain ⟨f0, fs0, cs0, rfl, hgo0, hf0⟩ := hF
  refine ret_of_sc (m := 9) func_syntax_either rfl rfl [(0, True, _), (1, True, _)] (sub_cons rfl (sub_cons rfl (sub_nil _))) ?_
  refine sc_seq fun K1 hK1 => ?_
  refine sc_text [1, 3] ?_
  refine sr_box rfl (ev_t rfl) rfl ?_
  intro b2 w2 N2
  have l2 := N2.ge g
  have g := g.trans (N2.g)
  have B2 := N2.blk
  refine sr_pu rfl (fun _ => rd_assign ev_c) ?_
  refine sr_sub [(1, _, _), (2, _, _), (4, _, _)] (sub_cons rfl (sub_cons rfl (sub_cons rfl (sub_nil _)))) ?_
  refine sr_nil (hK1 _ _ ?_)
  refine sc_seq fun K2 hK2 => ?_
  refine sc_text [3, 1, 1, 2] ?_
  refine sr_pu rfl (fun _ => rd_move (ev_t rfl)) ?_
  refine sr_call rfl (rc_call go_syntax_among ev_f (args_cons (ev_t rfl) (args_nil)) rfl) (among_ok l _ _ _ _ (hR.grow g) hl) ?_
  rintro v7 w7 ⟨hA, g7⟩
  refine ⟨fun _ => g7, ?_⟩
  have g := g.trans g7
  have hA0 := hA
  obtain ⟨f1, fs1, cs1, rfl, hgo1, hf1⟩ := hA
  replace B2 := B2.grow (g7)
  have gm := G.refl w7
  refine sr_alloc rfl ze_func_int_bool rfl ?_
  intro b5 w5 N5
  have x5_2 := N5.ne B2
  have l5 := N5.ge g
  try have l5_gm := N5.ge gm
  have g := g.trans (N5.g)
  try have gm := gm.trans (N5.g)
  replace B2 := B2.grow (N5.g)
  have B5 := N5.blk
  refine sr_store_all rfl sz_func_int_bool (ev_t rfl) (ev_t rfl) rfl rfl B5 rfl rfl ?_
  intro wS1 hgS1 hzS1
  clear B5
  intro B5
  replace B2 := B2.keep hgS1 (by intro h; injection h with h; first | exact x5_2 h.symm | exact x2_5 h | omega)
  have g := g_only g hgS1 (by intro k hk; injection hk with hk; omega)
  first | replace gm := g_only gm hgS1 (by intro k hk; injection hk with hk; omega) | clear gm | skip
  refine sr_sub [(2, _, _), (4, _, _), (5, _, _)] (sub_cons rfl (sub_cons rfl (sub_cons rfl (sub_nil _)))) ?_
  refine sr_nil (hK2 _ _ ?_)
  refine sc_seq fun K3 hK3 => ?_
  refine sc_text [3, 3] ?_
  refine sr_pu rfl (fun _ => rd_func (args_nil) (args_cons (ev_t rfl) (args_cons (ev_t rfl) (args_nil)))) ?_
  refine sr_pu rfl (fun _ => rd_assign (ev_t rfl)) ?_
  refine sr_sub [(4, _, _)] (sub_cons rfl (sub_nil _)) ?_
  refine sr_nil (hK3 _ _ ?_)
  refine sc_ret (t_ret1 rfl rfl ?_)
  refine ⟨⟨_, _, _, rfl, go_syntax_either_1, fun k w' g' => ?_⟩, g⟩
  exact either1_ok q (memK l) _ _ _ _ k w' (B2.grow g') (B5.grow g') ((hF0.grow g).grow g') ((hA0.grow gm).grow g')
end Go.Rk
