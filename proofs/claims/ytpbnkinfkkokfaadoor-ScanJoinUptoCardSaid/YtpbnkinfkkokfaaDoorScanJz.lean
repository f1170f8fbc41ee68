/- Tokens handed in, read. Conditions: none. -/
import Derived.Test.YtpbnkinfkkokfaaDoorScanJw
import Derived.Test.YtpbnkinfkkokfaaDoorScanY
import Derived.Deep.Slices
namespace Go.Rk
open Go Go.RowKit Go.ChangeShapes Go.WideShapes
theorem tok_fields : (match PP.underlying 33 with | some (.struct fs) => some (fs.toList.map fun f => (f.type, f.offset)) | _ => none) = some [(3, 0), (9, 1), (3, 2)] := by kernel_rfl
theorem cells3 : PP.cellsOf 3 = 1 := by kernel_rfl
theorem cells9 : PP.cellsOf 9 = 1 := by kernel_rfl
theorem cells33 : PP.cellsOf 33 = 3 := by kernel_rfl
theorem und23 : PP.underlying 23 = some (.slice 33) := by kernel_rfl
theorem und3 : PP.underlying 3 = some (.int .i64) := by kernel_rfl
theorem und9 : PP.underlying 9 = some .string := by kernel_rfl
section
variable {H : Type} {enc : TypeId × Value → H} {w : World} {base : Nat} {sp : Nat → Bool} {held : Bool}
theorem open_tok {fuel : Nat} {cs : List Value} {x : DataW H × List MemPlace} (h : DataW.trod enc PP w base sp held fuel 33 cs = some x) : ∃ t : Tok, cs = tokCells t ∧ t.text.length + 1 ≤ Go.Proofs.YtpbnkinfkkokfaaDoor.Rows.uptoBulk x.1 := by
  have hf0 := tok_fields
  split at hf0
  · rename_i fs hfs
    simp only [Option.some.injEq] at hf0
    obtain ⟨xs, n, rfl, rfl, hl, hxl, hx⟩ := DataW.trod_struct hfs h
    rw [cells33] at hl
    have hlen : fs.toList.length = 3 := by have := congrArg List.length hf0; simpa using this
    have f0 : ∃ f, fs[0]? = some f ∧ f.type = 3 ∧ f.offset = 0 := by
      have := congrArg (fun l : List (Nat × Nat) => l[0]?) hf0
      simp only [List.getElem?_map] at this
      rw [← Array.getElem?_toList]
      cases hq : fs.toList[0]? with
      | none => rw [hq] at this; cases this
      | some f => rw [hq] at this; simp at this; exact ⟨f, rfl, this.1, this.2⟩
    have f1 : ∃ f, fs[1]? = some f ∧ f.type = 9 ∧ f.offset = 1 := by
      have := congrArg (fun l : List (Nat × Nat) => l[1]?) hf0
      simp only [List.getElem?_map] at this
      rw [← Array.getElem?_toList]
      cases hq : fs.toList[1]? with
      | none => rw [hq] at this; cases this
      | some f => rw [hq] at this; simp at this; exact ⟨f, rfl, this.1, this.2⟩
    have f2 : ∃ f, fs[2]? = some f ∧ f.type = 3 ∧ f.offset = 2 := by
      have := congrArg (fun l : List (Nat × Nat) => l[2]?) hf0
      simp only [List.getElem?_map] at this
      rw [← Array.getElem?_toList]
      cases hq : fs.toList[2]? with
      | none => rw [hq] at this; cases this
      | some f => rw [hq] at this; simp at this; exact ⟨f, rfl, this.1, this.2⟩
    obtain ⟨g0, e0, a0, b0⟩ := f0
    obtain ⟨g1, e1, a1, b1⟩ := f1
    obtain ⟨g2, e2, a2, b2⟩ := f2
    have h0 := hx 0 g0 e0
    have h1 := hx 1 g1 e1
    have h2 := hx 2 g2 e2
    rw [a0, b0, cells3] at h0
    rw [a1, b1, cells9] at h1
    rw [a2, b2, cells3] at h2
    have hxl3 : xs.length = 3 := by rw [hxl]; simpa using hlen
    match cs, hl, xs, hxl3 with
    | [v0, v1, v2], _, [y0, y1, y2], _ =>
      simp only [List.drop_zero, List.take_succ_cons, List.take_zero, List.drop_succ_cons, List.getElem?_cons_zero, List.getElem?_cons_succ] at h0 h1 h2
      obtain ⟨z0, c0, rfl, _⟩ := DataW.trod_int und3 h0
      obtain ⟨s1, c1, rfl, _⟩ := DataW.trod_string und9 h1
      obtain ⟨z2, c2, rfl, _⟩ := DataW.trod_int und3 h2
      injection c0 with c0 _
      injection c1 with c1 _
      injection c2 with c2 _
      subst c0 c1 c2
      refine ⟨⟨z0, s1.data.toList, z2⟩, rfl, ?_⟩
      simp [Go.Proofs.YtpbnkinfkkokfaaDoor.Rows.uptoBulk, Go.Proofs.YtpbnkinfkkokfaaDoor.Rows.uptoBulkAll]
      omega
  · cases hf0
theorem rowAt_toks {w : World} {b : Nat} : ∀ (l : List Tok) (o : Nat), (∀ i, i < l.length → RowAt w b (o + i * 3) (tokCells (l.getD i tok0))) → RowAt w b o (toksCells l)
  | [], o, _ => fun j v hj => by simp [toksCells] at hj
  | t :: l, o, h => by
    have h0 := h 0 (by simp)
    have ih := rowAt_toks l (o + 3) (fun i hi => by
      have := h (i + 1) (by simpa using hi)
      rw [show o + (i + 1) * 3 = o + 3 + i * 3 by omega] at this
      simpa using this)
    intro j v hj
    rw [show toksCells (t :: l) = tokCells t ++ toksCells l from rfl] at hj
    by_cases hj3 : j < 3
    · rw [List.getElem?_append_left (by simpa [tokCells] using hj3)] at hj
      exact h0 j v (by simpa using hj)
    · rw [List.getElem?_append_right (by simp [tokCells]; omega)] at hj
      have := ih (j - 3) v (by simpa [tokCells] using hj)
      rw [show o + 3 + (j - 3) = o + j by omega] at this
      exact this
theorem open_toks {fuel : Nat} {cs : List Value} {x : DataW H × List MemPlace} (h : DataW.trod enc PP w base sp held fuel 23 cs = some x) : ∃ (l : List Tok) (v : Value), cs = [v] ∧ RowT l v w ∧ jl l ≤ Go.Proofs.YtpbnkinfkkokfaaDoor.Rows.uptoBulk x.1 := by
  rcases Go.Deep.open_slice und23 h with ⟨rfl, rfl⟩ | ⟨a, len, cap, m, n, D, Pl, rfl, hb, hl, hm, hmm, rfl, hx⟩
  · exact ⟨[], _, rfl, ⟨none, 0, rfl, fun h => absurd h (by simp)⟩, Nat.zero_le _⟩
  · have hlm : len ≤ m := by rw [hmm]; split <;> omega
    have each : ∀ i, i < len → ∃ t : Tok, w.cells? base (a.add (i * 3)) 3 = some (tokCells t) ∧ t.text.length + 1 ≤ Go.Proofs.YtpbnkinfkkokfaaDoor.Rows.uptoBulk (D i) := by
      intro i hi
      obtain ⟨cs', h1, h2⟩ := hx i (by omega)
      rw [cells33] at h1
      obtain ⟨t, rfl, ht⟩ := open_tok h2
      exact ⟨t, h1, ht⟩
    have build : ∀ k, k ≤ len → ∃ l : List Tok, l.length = k ∧ (∀ i, i < k → w.cells? base (a.add (i * 3)) 3 = some (tokCells (l.getD i tok0))) ∧ jl l ≤ Go.Proofs.YtpbnkinfkkokfaaDoor.Rows.uptoBulkAll ((List.range k).map D) := by
      intro k
      induction k with
      | zero => intro _; exact ⟨[], rfl, fun i hi => by omega, Nat.zero_le _⟩
      | succ k ih =>
        intro hk
        obtain ⟨l, hl1, hl2, hl3⟩ := ih (by omega)
        obtain ⟨t, ht1, ht2⟩ := each k (by omega)
        refine ⟨l ++ [t], by simp [hl1], fun i hi => ?_, ?_⟩
        · by_cases hik : i < k
          · have := hl2 i hik
            simpa [List.getD_eq_getElem?_getD, List.getElem?_append_left (show i < l.length by omega)] using this
          · obtain rfl : i = k := by omega
            simpa [List.getD_eq_getElem?_getD, List.getElem?_append_right (show l.length ≤ i by omega), hl1] using ht1
        · have e1 : jl (l ++ [t]) = jl l + (t.text.length + 1) := by simp [jl]
          have e2 : ∀ (xs : List (DataW H)) (y : DataW H), Go.Proofs.YtpbnkinfkkokfaaDoor.Rows.uptoBulkAll (xs ++ [y]) = Go.Proofs.YtpbnkinfkkokfaaDoor.Rows.uptoBulkAll xs + Go.Proofs.YtpbnkinfkkokfaaDoor.Rows.uptoBulk y := by
            intro xs y
            induction xs with
            | nil => simp [Go.Proofs.YtpbnkinfkkokfaaDoor.Rows.uptoBulkAll]
            | cons z xs ih => simp [Go.Proofs.YtpbnkinfkkokfaaDoor.Rows.uptoBulkAll, ih]; omega
          rw [List.range_succ, List.map_append, List.map_cons, List.map_nil, e1, e2]
          omega
    obtain ⟨l, hl1, hl2, hl3⟩ := build len (Nat.le_refl _)
    refine ⟨l, _, rfl, ⟨some a, cap, by rw [hl1], fun hpos => ?_⟩, ?_⟩
    · have h0 := hl2 0 (by omega)
      obtain ⟨_, _, hc0⟩ := World.cells?_some h0
      have hc := hc0 0 (by omega)
      have hsp : a.spot = none := by
        cases hq : a.spot with
        | none => rfl
        | some y =>
          have : w.cell? ((a.add (0 * 3)).add 0) = none := by
            unfold World.cell?
            split
            · simp [Addr.add, hq]
            · rfl
          rw [this] at hc; simp [tokCells] at hc
      refine ⟨a.block, a.off, ?_, rowAt_toks l a.off fun i hi => ?_⟩
      · cases a; simp only at hsp; rw [hsp]
      · obtain ⟨_, _, hci⟩ := World.cells?_some (hl2 i (by omega))
        intro j v hj
        have hj3 : j < 3 := by have := (List.getElem?_eq_some_iff.mp hj).1; simpa [tokCells] using this
        have := hci j hj3
        rw [hj] at this
        rw [← this]
        congr 1
        cases a; simp only at hsp; subst hsp; rw [Addr.add_lit, Addr.add_lit]
    · show jl l ≤ Go.Proofs.YtpbnkinfkkokfaaDoor.Rows.uptoBulk (DataW.slice _ _)
      simp [Go.Proofs.YtpbnkinfkkokfaaDoor.Rows.uptoBulk]
      omega
end
end Go.Rk
