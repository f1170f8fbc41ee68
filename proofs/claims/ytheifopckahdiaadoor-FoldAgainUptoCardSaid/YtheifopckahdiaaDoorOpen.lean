/- Arguments opened: types, trees. Conditions: none. -/
import Derived.Test.YtheifopckahdiaaDoorRng
import Derived.Test.YtheifopckahdiaaDoorFacts
import Derived.Test.YtheifopckahdiaaDoorRows
import Derived.Test.YtheifopckahdiaaDoorCards
import Derived.Deep.Slices
import Derived.Carry
namespace Go.Rk
open Go Go.RowKit Go.ChangeShapes Go.WideShapes
abbrev bulk {H : Type} : DataW H → Nat := Go.Proofs.YtheifopckahdiaaDoor.Rows.uptoBulk
abbrev bulkAll {H : Type} : List (DataW H) → Nat := Go.Proofs.YtheifopckahdiaaDoor.Rows.uptoBulkAll
theorem bulkAll_mem {H : Type} : ∀ (l : List (DataW H)) (d : DataW H), d ∈ l → bulk d ≤ bulkAll l
  | [], d, h => by cases h
  | x :: l, d, h => by
    simp only [bulk, bulkAll, Go.Proofs.YtheifopckahdiaaDoor.Rows.uptoBulkAll]
    rcases List.mem_cons.1 h with rfl | h
    · omega
    · have := bulkAll_mem l d h; simp only [bulk, bulkAll] at this; omega
theorem bulkAll_append {H : Type} : ∀ (l m : List (DataW H)), bulkAll (l ++ m) = bulkAll l + bulkAll m
  | [], m => by simp [bulkAll, Go.Proofs.YtheifopckahdiaaDoor.Rows.uptoBulkAll]
  | x :: l, m => by
    have := bulkAll_append l m
    simp only [bulkAll, List.cons_append, Go.Proofs.YtheifopckahdiaaDoor.Rows.uptoBulkAll] at this ⊢; omega
theorem und_int : PP.underlying 3 = some (.int .i64) := by kernel_rfl
theorem und_string : PP.underlying 9 = some .string := by kernel_rfl
theorem cel_int : PP.cellsOf 3 = 1 := by kernel_rfl
theorem cel_string : PP.cellsOf 9 = 1 := by kernel_rfl
noncomputable def fieldsOf' (t : TypeId) : Option (List (Nat × Nat)) := match PP.underlying t with | some (.struct fs) => some (fs.toList.map fun f => (f.type, f.offset)) | _ => none
theorem fields_some {t : TypeId} {L : List (Nat × Nat)} (hL : fieldsOf' t = some L) : ∃ fs, PP.underlying t = some (.struct fs) := by
  unfold fieldsOf' at hL
  split at hL
  · rename_i fs hfs
    exact ⟨fs, hfs⟩
  · cases hL
theorem len2 {α : Type} {l : List α} (h : l.length = 2) : ∃ a b, l = [a, b] := by
  match l, h with
  | [a, b], _ => exact ⟨a, b, rfl⟩
theorem len8 {α : Type} {l : List α} (h : l.length = 8) : ∃ a b c d e f g i, l = [a, b, c, d, e, f, g, i] := by
  match l, h with
  | [a, b, c, d, e, f, g, i], _ => exact ⟨a, b, c, d, e, f, g, i, rfl⟩
theorem len9 {α : Type} {l : List α} (h : l.length = 9) : ∃ a b c d e f g i j, l = [a, b, c, d, e, f, g, i, j] := by
  match l, h with
  | [a, b, c, d, e, f, g, i, j], _ => exact ⟨a, b, c, d, e, f, g, i, j, rfl⟩
section
variable {H : Type} {enc : TypeId × Value → H} {w : World} {base : Nat} {sp : Nat → Bool} {held : Bool}
theorem trod_fields {t : TypeId} {L : List (Nat × Nat)} (hL : fieldsOf' t = some L) {fuel : Nat} {cs : List Value} {x : DataW H × List MemPlace} (h : DataW.trod enc PP w base sp held fuel t cs = some x) :
    ∃ (xs : List (DataW H × List MemPlace)) (n : Nat), x = (.agg (xs.map (·.1)), xs.flatMap (·.2)) ∧ cs.length = PP.cellsOf t ∧ xs.length = L.length ∧
      ∀ (i ty o : Nat), L[i]? = some (ty, o) → DataW.trod enc PP w base sp held n ty ((cs.drop o).take (PP.cellsOf ty)) = xs[i]? := by
  unfold fieldsOf' at hL
  split at hL
  · rename_i fs hfs
    injection hL with hL
    obtain ⟨xs, n, rfl, rfl, hl, hxl, hx⟩ := DataW.trod_struct hfs h
    refine ⟨xs, n, rfl, hl, by rw [← hL, hxl]; simp, fun i ty o hi => ?_⟩
    rw [← hL, List.getElem?_map] at hi
    cases hq : fs.toList[i]? with
    | none => rw [hq] at hi; cases hi
    | some f =>
      rw [hq] at hi
      simp only [Option.map_some, Option.some.injEq, Prod.mk.injEq] at hi
      obtain ⟨rfl, rfl⟩ := hi
      exact hx i f (by rw [← Array.getElem?_toList]; exact hq)
  · cases hL
theorem rng_of {z : Int} (h : (Lit.int .i64 z).wf = true) : rng z := by
  simp only [Lit.wf, Bool.and_eq_true, decide_eq_true_eq] at h
  exact h
theorem fields_ty : fieldsOf' 24 = some [(3, 0), (9, 1)] := by kernel_rfl
theorem cel_ty : PP.cellsOf 24 = 2 := by kernel_rfl
theorem open_tyc {fuel : Nat} {cs : List Value} {x : DataW H × List MemPlace} (h : DataW.trod enc PP w base sp held fuel 24 cs = some x) : ∃ y : Ty, cs = tyCells y ∧ rng y.kind ∧ y.name.length + 1 ≤ bulk x.1 := by
  obtain ⟨xs, n, rfl, hl, hxl, hx⟩ := trod_fields fields_ty h
  rw [cel_ty] at hl
  have h0 := hx 0 _ _ rfl
  have h1 := hx 1 _ _ rfl
  rw [cel_int] at h0
  rw [cel_string] at h1
  obtain ⟨v0, v1, rfl⟩ := len2 hl
  obtain ⟨y0, y1, rfl⟩ := len2 hxl
  · skip
    simp only [List.drop_zero, List.take_succ_cons, List.take_zero, List.drop_succ_cons, List.getElem?_cons_zero, List.getElem?_cons_succ] at h0 h1
    obtain ⟨z0, c0, rfl, w0⟩ := DataW.trod_int und_int h0
    obtain ⟨s1, c1, rfl, _⟩ := DataW.trod_string und_string h1
    injection c0 with c0 _
    injection c1 with c1 _
    subst c0 c1
    refine ⟨⟨z0, s1.data.toList⟩, rfl, rng_of w0, ?_⟩
    simp [bulk, Go.Proofs.YtheifopckahdiaaDoor.Rows.uptoBulk, Go.Proofs.YtheifopckahdiaaDoor.Rows.uptoBulkAll]; omega
set_option maxRecDepth 100000 in
theorem open_ty {r : Reach} {b0 : Nat} {v : Value} {d : DataW H} {p : List MemPlace} (hv : Value.okWide PP w r b0 24 v) (h : DataW.Trod enc PP w base sp held 24 v d p) : ∃ y : Ty, v = tyV y ∧ rng y.kind ∧ y.name.length + 1 ≤ bulk d := by
  obtain ⟨fs, hfs⟩ := fields_some fields_ty
  obtain ⟨cs, rfl, _⟩ := okWide_struct hfs hv
  obtain ⟨fuel, hf⟩ := h
  obtain ⟨y, hy, h1, h2⟩ := open_tyc hf
  refine ⟨y, ?_, h1, h2⟩
  show Value.agg cs = Value.agg (tyCells y).toArray
  rw [← hy]; simp [Value.cells]
theorem fields_nd : fieldsOf' 26 = some [(3, 0), (9, 1), (3, 2), (3, 3), (22, 4), (24, 5), (3, 7), (3, 8)] := by kernel_rfl
theorem cel_nd : PP.cellsOf 26 = 9 := by kernel_rfl
theorem cel_snd : PP.cellsOf 22 = 1 := by kernel_rfl
theorem und_snd : PP.underlying 22 = some (.slice 26) := by kernel_rfl
theorem rowAt_nds {w : World} {b : Nat} {D : Nat → Prop} : ∀ (l : List Nd) (o : Nat), (∀ i, (h : i < l.length) → ∃ v, RowAt w b (o + i * 9) (ndCells l[i] v) ∧ Kd w D l[i].kids v) → ∃ xs, RowAt w b o xs ∧ KRow w D l xs
  | [], o, _ => ⟨[], fun j v hj => by simp at hj, rfl⟩
  | t :: l, o, h => by
    obtain ⟨v0, h0, k0⟩ := h 0 (by simp)
    obtain ⟨xs, ih, kx⟩ := rowAt_nds l (o + 9) (fun i hi => by
      obtain ⟨v, h1, h2⟩ := h (i + 1) (by simpa using hi)
      rw [show o + (i + 1) * 9 = o + 9 + i * 9 by omega] at h1
      exact ⟨v, by simpa using h1, by simpa using h2⟩)
    refine ⟨ndCells t v0 ++ xs, fun j v hj => ?_, krow_cons (by simpa using k0) kx⟩
    by_cases hj9 : j < 9
    · rw [List.getElem?_append_left (by simpa [ndCells] using hj9)] at hj
      exact h0 j v (by simpa using hj)
    · rw [List.getElem?_append_right (by simp [ndCells]; omega)] at hj
      have := ih (j - 9) v (by simpa [ndCells] using hj)
      rw [show o + 9 + (j - 9) = o + j by omega] at this
      exact this
theorem open_nd : ∀ (N fuel : Nat) (cs : List Value) (x : DataW H × List MemPlace), bulk x.1 ≤ N → DataW.trod enc PP w base sp held fuel 26 cs = some x →
    ∃ (t : Nd) (v : Value), cs = ndCells t v ∧ Kd w (fun _ => True) t.kids v ∧ okNd t ∧ count t ≤ bulk x.1 := by
  intro N
  induction N with
  | zero =>
    intro fuel cs x hb h
    obtain ⟨xs, n, rfl, _⟩ := trod_fields fields_nd h
    simp [bulk, Go.Proofs.YtheifopckahdiaaDoor.Rows.uptoBulk] at hb
  | succ N ih =>
    intro fuel cs x hb h
    obtain ⟨xs, n, rfl, hl, hxl, hx⟩ := trod_fields fields_nd h
    rw [cel_nd] at hl
    have h0 := hx 0 _ _ rfl
    have h1 := hx 1 _ _ rfl
    have h2 := hx 2 _ _ rfl
    have h3 := hx 3 _ _ rfl
    have h4 := hx 4 _ _ rfl
    have h5 := hx 5 _ _ rfl
    have h6 := hx 6 _ _ rfl
    have h7 := hx 7 _ _ rfl
    rw [cel_int] at h0 h2 h3 h6 h7
    rw [cel_string] at h1
    rw [cel_snd] at h4
    rw [cel_ty] at h5
    obtain ⟨v0, v1, v2, v3, v4, v5, v5', v6, v7, rfl⟩ := len9 hl
    obtain ⟨y0, y1, y2, y3, y4, y5, y6, y7, rfl⟩ := len8 hxl
    · skip
      simp only [List.drop_zero, List.take_succ_cons, List.take_zero, List.drop_succ_cons, List.getElem?_cons_zero, List.getElem?_cons_succ] at h0 h1 h2 h3 h4 h5 h6 h7
      obtain ⟨z0, c0, rfl, w0⟩ := DataW.trod_int und_int h0
      obtain ⟨s1, c1, rfl, _⟩ := DataW.trod_string und_string h1
      obtain ⟨z2, c2, rfl, w2⟩ := DataW.trod_int und_int h2
      obtain ⟨z3, c3, rfl, w3⟩ := DataW.trod_int und_int h3
      obtain ⟨z6, c6, rfl, w6⟩ := DataW.trod_int und_int h6
      obtain ⟨z7, c7, rfl, w7⟩ := DataW.trod_int und_int h7
      obtain ⟨y, cy, wy, _⟩ := open_tyc h5
      injection c0 with c0 _; injection c1 with c1 _; injection c2 with c2 _; injection c3 with c3 _; injection c6 with c6 _; injection c7 with c7 _
      simp only [tyCells, List.cons.injEq, and_true] at cy
      obtain ⟨cy1, cy2⟩ := cy
      subst c0 c1 c2 c3 c6 c7 cy1 cy2
      have hb4 : bulk y4.1 ≤ N := by
        simp only [bulk, Go.Proofs.YtheifopckahdiaaDoor.Rows.uptoBulk, Go.Proofs.YtheifopckahdiaaDoor.Rows.uptoBulkAll, List.map_cons, List.map_nil] at hb ⊢; omega
      have done : ∀ (ks : List Nd), Kd w (fun _ => True) ks v4 → (∀ k ∈ ks, okNd k) → (ks.map count).sum ≤ bulk y4.1 →
          ∃ (t : Nd) (v : Value), [Value.int .i64 z0, .string s1, .int .i64 z2, .int .i64 z3, v4, .int .i64 y.kind, Str y.name, .int .i64 z6, .int .i64 z7] = ndCells t v ∧ Kd w (fun _ => True) t.kids v ∧ okNd t ∧ count t ≤ bulk (DataW.agg (List.map (·.1) [((.lit (.int .i64 z0) : DataW H), ([] : List MemPlace)), (.lit (.string s1.data.toList), []), (.lit (.int .i64 z2), []), (.lit (.int .i64 z3), []), y4, y5, (.lit (.int .i64 z6), []), (.lit (.int .i64 z7), [])])) := by
        intro ks hk hok hc
        refine ⟨.mk z0 s1.data.toList z2 z3 ks y z6 z7, v4, rfl, hk, ?_, ?_⟩
        · rw [okNd_eq]
          refine ⟨rng_of w0, rng_of w2, rng_of w3, wy, rng_of w6, rng_of w7, fun p hp => ?_⟩
          obtain ⟨k, hk1, rfl⟩ := List.mem_map.1 hp
          exact hok k hk1
        · rw [count_eq]
          simp only [bulk, Go.Proofs.YtheifopckahdiaaDoor.Rows.uptoBulk, Go.Proofs.YtheifopckahdiaaDoor.Rows.uptoBulkAll, List.map_cons, List.map_nil] at hc ⊢
          show 1 + (ks.map count).sum ≤ _
          omega
      rcases Go.Deep.open_slice und_snd h4 with ⟨e4, rfl⟩ | ⟨a, len, cap, m, n', D, Pl, e4, hba, hlc, hcm, hmm, rfl, hxs⟩
      · injection e4 with e4 _
        subst e4
        exact done [] (kd_nil w _) (fun k hk => by cases hk) (Nat.zero_le _)
      · injection e4 with e4 _
        subst e4
        have hlm : len ≤ m := by rw [hmm]; split <;> omega
        rw [cel_nd] at hxs
        have hle : bulkAll ((List.range len).map D) + 1 ≤ bulk (DataW.slice ((List.range len).map D) ((List.range (m - len)).map fun j => D (len + j))) := by
          simp only [bulk, bulkAll, Go.Proofs.YtheifopckahdiaaDoor.Rows.uptoBulk]; omega
        have build : ∀ k, k ≤ len → ∃ l : List Nd, l.length = k ∧ (∀ i, (h : i < l.length) → ∃ v, w.cells? base (a.add (i * 9)) 9 = some (ndCells l[i] v) ∧ Kd w (fun _ => True) l[i].kids v) ∧ (∀ t ∈ l, okNd t) ∧ (l.map count).sum ≤ bulkAll ((List.range k).map D) := by
          intro k
          induction k with
          | zero => intro _; exact ⟨[], rfl, fun i hi => by simp at hi, fun t ht => (by cases ht), Nat.zero_le _⟩
          | succ k ihk =>
            intro hk
            obtain ⟨l, hl1, hl2, hl3, hl4⟩ := ihk (by omega)
            obtain ⟨cs', q1, q2⟩ := hxs k (by omega)
            have hbk : bulk (D k) ≤ N := by
              have := bulkAll_mem ((List.range len).map D) (D k) (List.mem_map_of_mem (List.mem_range.2 (by omega)))
              simp only [] at hb4; omega
            obtain ⟨t, v, rfl, kt, ot, ct⟩ := ih n' cs' _ hbk q2
            refine ⟨l ++ [t], by simp [hl1], fun i hi => ?_, fun u hu => ?_, ?_⟩
            · by_cases hik : i < l.length
              · obtain ⟨v', e1, e2⟩ := hl2 i hik
                rw [List.getElem_append_left hik]; exact ⟨v', e1, e2⟩
              · have hi' : i = l.length := by simp at hi; omega
                subst hi'
                rw [List.getElem_append_right (Nat.le_refl _)]
                simp only [Nat.sub_self, List.getElem_cons_zero]
                exact ⟨v, by rw [hl1]; exact q1, kt⟩
            · rcases List.mem_append.1 hu with hu | hu
              · exact hl3 u hu
              · rw [List.mem_singleton.1 hu]; exact ot
            · rw [List.range_succ, List.map_append, List.map_append, List.sum_append, bulkAll_append]
              have : bulkAll (List.map D [k]) = bulk (D k) := by simp [bulkAll, bulk, Go.Proofs.YtheifopckahdiaaDoor.Rows.uptoBulkAll]
              rw [this]; simp only [List.map_cons, List.map_nil, List.sum_cons, List.sum_nil]; simp only [] at ct; omega
        obtain ⟨l, hl1, hl2, hl3, hl4⟩ := build len (Nat.le_refl _)
        refine done l ⟨some a, cap, by rw [hl1], by rw [hl1]; exact hlc, fun hpos => ?_⟩ hl3 (by simp only [] at hl4 hle ⊢; omega)
        obtain ⟨v0, h0, _⟩ := hl2 0 hpos
        obtain ⟨_, _, hc0⟩ := World.cells?_some h0
        have hc := hc0 0 (by omega)
        have hsp : a.spot = none := by
          cases hq : a.spot with
          | none => rfl
          | some y =>
            have : w.cell? ((a.add (0 * 9)).add 0) = none := by
              unfold World.cell?
              split
              · simp [Addr.add, hq]
              · rfl
            rw [this] at hc; simp [ndCells] at hc
        have ha : a = ⟨a.block, a.off, none⟩ := by cases a; simp only at hsp; rw [hsp]
        obtain ⟨xs', r1, r2⟩ := rowAt_nds (w := w) (b := a.block) (D := fun _ => True) l a.off (fun i hi => by
          obtain ⟨v, e1, e2⟩ := hl2 i hi
          refine ⟨v, ?_, e2⟩
          obtain ⟨_, _, hci⟩ := World.cells?_some e1
          intro j u hj
          have hj9 : j < 9 := by have := (List.getElem?_eq_some_iff.mp hj).1; simpa [ndCells] using this
          have := hci j hj9
          rw [hj] at this
          rw [← this]
          congr 1
          rw [ha, Addr.add_lit, Addr.add_lit])
        exact ⟨a.block, a.off, by rw [ha], trivial, xs', r1, r2⟩
set_option maxRecDepth 100000 in
theorem open_node {r : Reach} {b0 : Nat} {v : Value} {d : DataW H} {p : List MemPlace} (hv : Value.okWide PP w r b0 26 v) (h : DataW.Trod enc PP w base sp held 26 v d p) : ∃ (t : Nd) (u : Value), v = ndV t u ∧ Kd w (fun _ => True) t.kids u ∧ okNd t ∧ count t ≤ bulk d := by
  obtain ⟨fs, hfs⟩ := fields_some fields_nd
  obtain ⟨cs, rfl, _⟩ := okWide_struct hfs hv
  obtain ⟨fuel, hf⟩ := h
  obtain ⟨t, u, ht, h1, h2, h3⟩ := open_nd _ fuel _ _ (Nat.le_refl _) hf
  refine ⟨t, u, ?_, h1, h2, h3⟩
  show Value.agg cs = Value.agg (ndCells t u).toArray
  rw [← ht]; simp [Value.cells]
end
end Go.Rk
