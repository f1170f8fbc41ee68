/- Merged texts of one road: Y, Rng, Wgt, Open, Fn, RowF, Own, RefA, RefB, SynA, RefC. Conditions: each text's own. -/
import Derived.Test.YteicjpedahoilaaGreatDoorCards
import Derived.Test.YteicjpedahoilaaGreatDoorTie
import Derived.Test.YteicjpedahoilaaGreatDoorE03
import Derived.WalkKit
import Derived.ProofKit
import Derived.OpenShut
import Derived.Deep.DeepHandedRow
import Derived.Deep.DeepWitnessRowRef
import Derived.Lib.LaidTab
import Derived.Stop.LaidErr
import Derived.ShutString
import Derived.Below
import Derived.ChangeMaps5
import Derived.Test.YteicjpedahoilaaGreatDoorE02
import Derived.Test.YteicjpedahoilaaGreatDoorRows
import Derived.Deep.Slices
import Derived.Carry
set_option linter.unusedSimpArgs false
set_option linter.unusedVariables false
namespace Go.Rk
open Go Go.RowKit Go.ChangeShapes Go.WideShapes Go.ChangeAt
theorem cells_of_strs {H : Type} {enc : TypeId × Value → H} {P : Program} {w : World} {base : Nat} {sp : Nat → Bool} {held : Bool} {fuel : Nat} {t e : TypeId} {n : Nat} {cs : List Value} {ls : List (List UInt8)} {p : List MemPlace}
  (ht : P.underlying t = some (.array n e)) (he : P.underlying e = some .string) (hce : P.cellsOf e = 1) (hct : P.cellsOf t = n)
  (h : DataW.trod enc P w base sp held fuel t cs = some (.agg (ls.map fun l => .lit (.string l)), p)) : cs = ls.map Str := by
 cases fuel with
 | zero => simp [DataW.trod] at h
 | succ fuel =>
  simp only [DataW.trod, ht, hce, hct, Nat.mul_one] at h
  split at h
  ·rename_i hl
   obtain ⟨xs, hm, hx⟩ := Option.map_eq_some_iff.1 h
   have hxs : xs.map (·.1) = ls.map fun l => (DataW.lit (.string l) : DataW H) := by
    have := congrArg Prod.fst hx
    simpa using this
   have hxl : xs.length = n := by simpa using Lib.mapM_length hm
   have hzl : ls.length = n := by
    have := congrArg List.length hxs
    simp at this
    omega
   apply List.ext_getElem?
   intro i
   by_cases hi : i < n
   ·obtain ⟨b, hb, hf⟩ := Lib.mapM_at hm i i (by simp [hi])
    obtain ⟨s, hc, rfl, _⟩ := DataW.trod_string he hf
    have h1 : cs[i]? = some (.string s) := by
     have := congrArg (·[0]?) hc
     simpa [List.getElem?_take, List.getElem?_drop] using this
    have h2 : (xs.map (·.1))[i]? = some (DataW.lit (.string s.data.toList) : DataW H) := by simp [hb]
    rw [hxs] at h2
    simp only [List.getElem?_map, Option.map_eq_some_iff, DataW.lit.injEq, Lit.string.injEq] at h2
    obtain ⟨z', hz', e⟩ := h2
    rw [h1]
    simp [hz', e]
   ·rw [List.getElem?_eq_none (by omega), List.getElem?_eq_none (by simp; omega)]
  ·cases h
theorem laid_of {P : Program} {x : String × DataW Unit} {r : List (String × DataW Unit)} {W : World} {g : Nat} {t : TypeId} (h : laidMet P (x :: r) W) (hg : P.globalNamed x.1 = some g) (ht : (P.globals[g]?).map (·.type) = some t) :
  ∃ cs fuel p, W.var? P x.1 = some cs ∧ DataW.trod (fun _ => ()) P W 0 (fun _ => true) false fuel t cs.toList = some (x.2, p) := by
 obtain ⟨n, d⟩ := x
 obtain ⟨ps, ⟨g', t', cs, fuel, p, q, hg', ht', hvar, hd, _, _⟩, _⟩ := h
 obtain rfl := Option.some.inj (hg.symm.trans hg')
 obtain rfl := Option.some.inj (ht.symm.trans ht')
 exact ⟨cs, fuel, p, hvar, hd⟩
abbrev laidL : List (String × DataW Unit) := Go.Proofs.YteicjpedahoilaaGreatDoor.Rows.foldFileRow.laid
theorem laid_cells {W : World} (h : laidMetH PP laidL W) : Laid W := by
 have h0 : laidMet PP laidL W := h
 obtain ⟨cs, fuel, p, hv, hd⟩ := laid_of h0.tail.tail.tail.tail.tail (g := 0) (t := 155) (by kernel_rfl) (by kernel_rfl)
 have hc : cs.toList = opsL.map Str := cells_of_strs (n := 27) (e := 9) (by kernel_rfl) (by kernel_rfl) (by kernel_rfl) (by kernel_rfl) hd
 obtain ⟨cs2, fuel2, p2, hv2, hd2⟩ := laid_of h0.tail.tail.tail (g := 5) (t := 86) (by kernel_rfl) (by kernel_rfl)
 obtain ⟨ms, hms⟩ : ∃ ms, PP.underlying 86 = some (.interface ms) := Go.underlying_of_isIface if_error
 obtain ⟨f', u, v, hc2, _⟩ := iface_of_trod hms hd2
 refine ⟨fun j v hj => ?_, ?_⟩
 ·have := World.var?_cell (by kernel_rfl : PP.globalNamed _ = some 0) hv j
  rw [Nat.zero_add, this, ← hj, ← hc]; simp
 ·have := World.var?_cell (by kernel_rfl : PP.globalNamed _ = some 5) hv2 0
  refine ⟨.iface u v, ?_, .inr ⟨_, _, rfl⟩⟩
  rw [this, ← Array.getElem?_toList, hc2]; rfl
theorem laid_size {W : World} (h : Laid W) : 6 ≤ W.heap.size := by
 obtain ⟨ev, h1, _⟩ := h.err
 exact World.block_lt_of_cell? W _ h1
end Go.Rk
namespace Go.Proofs.YteicjpedahoilaaGreatDoor
open Go Go.RowKit Go.ChangeShapes Go.WideShapes Go.ChangeAt Go.Rk
theorem own : ownKnob Tryz.prog.godebug = none := by kernel_rfl
def cellOf : DataW Unit → Value
 | .lit (.int k z) => .int k z
 | .lit (.string s) => .string ⟨s.toArray⟩
 | _ => .nilIface
def cellsOf : DataW Unit → Array Value
 | .agg l => (l.map cellOf).toArray
 | _ => #[]
def textOf : DataW Unit → Value
 | .iface _ (.ptr (.agg [d])) => cellOf d
 | _ => .nilIface
def put (h : Array Obj) (g : Nat) (cs : Array Value) : Array Obj := h.modify g fun
 | .cells _ t frozen => .cells cs t frozen
 | o => o
noncomputable def laidWorld (os : Os) : World :=
 let N := (World.settled Tryz.prog os).heap.size
 let w0 := World.holding Tryz.prog os ⟨#[.cells #[textOf Rows.laid_strconv_ErrSyntax] 178, .cells #[textOf Rows.laid_strconv_ErrRange] 178], #[], []⟩
 let h0 := put w0.heap 0 (cellsOf Rows.laid_interleave_scan_operators)
 let h1 := put h0 1 (cellsOf Rows.laid_internal_strconv_uint64pow10)
 let h2 := put h1 2 (cellsOf Rows.laid_math_bits_deBruijn32tab)
 let h3 := put h2 3 (cellsOf Rows.laid_math_bits_deBruijn64tab)
 let h4 := put h3 4 #[.iface 176 (.pointer (some ⟨N, 0, none⟩))]
 let h5 := put h4 5 #[.iface 176 (.pointer (some ⟨N + 1, 0, none⟩))]
 { w0 with heap := h5 }
end Go.Proofs.YteicjpedahoilaaGreatDoor
namespace Go.Rk
open Go Go.RowKit
def rng (z : Int) : Prop := -9223372036854775808 ≤ z ∧ z ≤ 9223372036854775807
def okNd (t : Nd) : Prop := para (fun t l => rng t.kind ∧ rng t.num ∧ rng t.pos ∧ rng t.ty.kind ∧ rng t.ref ∧ rng t.up ∧ ∀ p ∈ l, p) t
theorem Zdb (t : Nd) : okNd t = (rng t.kind ∧ rng t.num ∧ rng t.pos ∧ rng t.ty.kind ∧ rng t.ref ∧ rng t.up ∧ ∀ p ∈ t.kids.map okNd, p) := Xfa _ t
theorem Vc {t k : Nd} (h : okNd t) (hk : k ∈ t.kids) : okNd k := by
 rw [Zdb] at h; exact h.2.2.2.2.2.2 _ (List.mem_map_of_mem hk)
end Go.Rk
namespace Go.Rk
open Go Go.RowKit
def weight (t : Nd) : Nat := para (fun t l => 1 + t.text.length + l.sum) t
theorem Vkb (t : Nd) : weight t = 1 + t.text.length + (t.kids.map weight).sum := Xfa _ t
theorem Qba : ∀ t, count t ≤ weight t := by
 refine Nd.ind fun t ih => ?_
 have : ∀ (l : List Nd), (∀ k ∈ l, count k ≤ weight k) → (l.map count).sum ≤ (l.map weight).sum := by
  intro l
  induction l with
  | nil => intro _; simp
  | cons a l ihl => intro h; have := h a List.mem_cons_self; have := ihl fun k hk => h k (List.mem_cons_of_mem _ hk); simp; omega
 rw [Ww, Vkb]; have := this t.kids ih; omega
end Go.Rk
namespace Go.Rk
open Go Go.RowKit Go.ChangeShapes Go.WideShapes
abbrev bulk {H : Type} : DataW H → Nat := Go.Proofs.YteicjpedahoilaaGreatDoor.Rows.uptoBulk
abbrev bulkAll {H : Type} : List (DataW H) → Nat := Go.Proofs.YteicjpedahoilaaGreatDoor.Rows.uptoBulkAll
theorem Wqa {H : Type} : ∀ (l : List (DataW H)) (d : DataW H), d ∈ l → bulk d ≤ bulkAll l
 | [], d, h => by cases h
 | x :: l, d, h => by
  simp only [bulk, bulkAll, Go.Proofs.YteicjpedahoilaaGreatDoor.Rows.uptoBulkAll]
  rcases List.mem_cons.1 h with rfl | h
  ·omega
  ·have := Wqa l d h; simp only [bulk, bulkAll] at this; omega
theorem Jna {H : Type} : ∀ (l m : List (DataW H)), bulkAll (l ++ m) = bulkAll l + bulkAll m
 | [], m => by simp [bulkAll, Go.Proofs.YteicjpedahoilaaGreatDoor.Rows.uptoBulkAll]
 | x :: l, m => by
  have := Jna l m
  simp only [bulkAll, List.cons_append, Go.Proofs.YteicjpedahoilaaGreatDoor.Rows.uptoBulkAll] at this ⊢; omega
theorem Zeb : PP.underlying 3 = some (.int .i64) := by kernel_rfl
theorem Ybc : PP.underlying 9 = some .string := by kernel_rfl
theorem cel_int : PP.cellsOf 3 = 1 := by kernel_rfl
theorem Ycc : PP.cellsOf 9 = 1 := by kernel_rfl
noncomputable def fieldsOf' (t : TypeId) : Option (List (Nat × Nat)) := match PP.underlying t with | some (.struct fs) => some (fs.toList.map fun f => (f.type, f.offset)) | _ => none
theorem fields_some {t : TypeId} {L : List (Nat × Nat)} (hL : fieldsOf' t = some L) : ∃ fs, PP.underlying t = some (.struct fs) := by
 unfold fieldsOf' at hL
 split at hL
 ·rename_i fs hfs
  exact ⟨fs, hfs⟩
 ·cases hL
theorem len2 {α : Type} {l : List α} (h : l.length = 2) : ∃ a b, l = [a, b] := by
 match l, h with
 | [a, b], _ => exact ⟨a, b, rfl⟩
theorem len8 {α : Type} {l : List α} (h : l.length = 8) : ∃ a b c d e f g i, l = [a, b, c, d, e, f, g, i] := by
 match l, h with
 | [a, b, c, d, e, f, g, i], _ => exact ⟨a, b, c, d, e, f, g, i, rfl⟩
theorem len9 {α : Type} {l : List α} (h : l.length = 9) : ∃ a b c d e f g i j, l = [a, b, c, d, e, f, g, i, j] := by
 match l, h with
 | [a, b, c, d, e, f, g, i, j], _ => exact ⟨a, b, c, d, e, f, g, i, j, rfl⟩
section
variable {H : Type} {enc : TypeId × Value → H} {w : World} {base : Nat} {sp : Nat → Bool} {held : Bool}
theorem Joa {t : TypeId} {L : List (Nat × Nat)} (hL : fieldsOf' t = some L) {fuel : Nat} {cs : List Value} {x : DataW H × List MemPlace} (h : DataW.trod enc PP w base sp held fuel t cs = some x) :
  ∃ (xs : List (DataW H × List MemPlace)) (n : Nat), x = (.agg (xs.map (·.1)), xs.flatMap (·.2)) ∧ cs.length = PP.cellsOf t ∧ xs.length = L.length ∧
   ∀ (i ty o : Nat), L[i]? = some (ty, o) → DataW.trod enc PP w base sp held n ty ((cs.drop o).take (PP.cellsOf ty)) = xs[i]? := by
 unfold fieldsOf' at hL
 split at hL
 ·rename_i fs hfs
  injection hL with hL
  obtain ⟨xs, n, rfl, rfl, hl, hxl, hx⟩ := DataW.trod_struct hfs h
  refine ⟨xs, n, rfl, hl, by rw [← hL, hxl]; simp, fun i ty o hi => ?_⟩
  rw [← hL, List.getElem?_map] at hi
  cases hq : fs.toList[i]? with
  | none => rw [hq] at hi; cases hi
  | some f =>
   rw [hq] at hi
   simp only [Option.map_some, Option.some.injEq, Prod.mk.injEq] at hi
   obtain ⟨rfl, rfl⟩ := hi
   exact hx i f (by rw [← Array.getElem?_toList]; exact hq)
 ·cases hL
theorem Vlb {z : Int} (h : (Lit.int .i64 z).wf = true) : rng z := by
 simp only [Lit.wf, Bool.and_eq_true, decide_eq_true_eq] at h
 exact h
theorem fields_ty : fieldsOf' 24 = some [(3, 0), (9, 1)] := by kernel_rfl
theorem cel_ty : PP.cellsOf 24 = 2 := by kernel_rfl
theorem open_tyc {fuel : Nat} {cs : List Value} {x : DataW H × List MemPlace} (h : DataW.trod enc PP w base sp held fuel 24 cs = some x) : ∃ y : Ty, cs = tyCells y ∧ rng y.kind ∧ y.name.length + 1 ≤ bulk x.1 := by
 obtain ⟨xs, n, rfl, hl, hxl, hx⟩ := Joa fields_ty h
 rw [cel_ty] at hl
 have h0 := hx 0 _ _ rfl
 have h1 := hx 1 _ _ rfl
 rw [cel_int] at h0
 rw [Ycc] at h1
 obtain ⟨v0, v1, rfl⟩ := len2 hl
 obtain ⟨y0, y1, rfl⟩ := len2 hxl
 ·skip
  simp only [List.drop_zero, List.take_succ_cons, List.take_zero, List.drop_succ_cons, List.getElem?_cons_zero, List.getElem?_cons_succ] at h0 h1
  obtain ⟨z0, c0, rfl, w0⟩ := DataW.trod_int Zeb h0
  obtain ⟨s1, c1, rfl, _⟩ := DataW.trod_string Ybc h1
  injection c0 with c0 _
  injection c1 with c1 _
  subst c0 c1
  refine ⟨⟨z0, s1.data.toList⟩, rfl, Vlb w0, ?_⟩
  simp [bulk, Go.Proofs.YteicjpedahoilaaGreatDoor.Rows.uptoBulk, Go.Proofs.YteicjpedahoilaaGreatDoor.Rows.uptoBulkAll]; omega
theorem Vmb : fieldsOf' 26 = some [(3, 0), (9, 1), (3, 2), (3, 3), (22, 4), (24, 5), (3, 7), (3, 8)] := by kernel_rfl
theorem cel_nd : PP.cellsOf 26 = 9 := by kernel_rfl
theorem cel_snd : PP.cellsOf 22 = 1 := by kernel_rfl
theorem und_snd : PP.underlying 22 = some (.slice 26) := by kernel_rfl
theorem rowAt_nds {w : World} {b : Nat} {D : Nat → Prop} : ∀ (l : List Nd) (o : Nat), (∀ i, (h : i < l.length) → ∃ v, RowAt w b (o + i * 9) (ndCells l[i] v) ∧ Kd w D l[i].kids v) → ∃ xs, RowAt w b o xs ∧ KRow w D l xs
 | [], o, _ => ⟨[], fun j v hj => by simp at hj, rfl⟩
 | t :: l, o, h => by
  obtain ⟨v0, h0, k0⟩ := h 0 (by simp)
  obtain ⟨xs, ih, kx⟩ := rowAt_nds l (o + 9) (fun i hi => by
   obtain ⟨v, h1, h2⟩ := h (i + 1) (by simpa using hi)
   rw [show o + (i + 1) * 9 = o + 9 + i * 9 by omega] at h1
   exact ⟨v, by simpa using h1, by simpa using h2⟩)
  refine ⟨ndCells t v0 ++ xs, fun j v hj => ?_, Vs (by simpa using k0) kx⟩
  by_cases hj9 : j < 9
  ·rw [List.getElem?_append_left (by simpa [ndCells] using hj9)] at hj
   exact h0 j v (by simpa using hj)
  ·rw [List.getElem?_append_right (by simp [ndCells]; omega)] at hj
   have := ih (j - 9) v (by simpa [ndCells] using hj)
   rw [show o + 9 + (j - 9) = o + j by omega] at this
   exact this
theorem open_nd : ∀ (N fuel : Nat) (cs : List Value) (x : DataW H × List MemPlace), bulk x.1 ≤ N → DataW.trod enc PP w base sp held fuel 26 cs = some x →
  ∃ (t : Nd) (v : Value), cs = ndCells t v ∧ Kd w (fun _ => True) t.kids v ∧ okNd t ∧ weight t ≤ bulk x.1 := by
 intro N
 induction N with
 | zero =>
  intro fuel cs x hb h
  obtain ⟨xs, n, rfl, _⟩ := Joa Vmb h
  simp [bulk, Go.Proofs.YteicjpedahoilaaGreatDoor.Rows.uptoBulk] at hb
 | succ N ih =>
  intro fuel cs x hb h
  obtain ⟨xs, n, rfl, hl, hxl, hx⟩ := Joa Vmb h
  rw [cel_nd] at hl
  have h0 := hx 0 _ _ rfl
  have h1 := hx 1 _ _ rfl
  have h2 := hx 2 _ _ rfl
  have h3 := hx 3 _ _ rfl
  have h4 := hx 4 _ _ rfl
  have h5 := hx 5 _ _ rfl
  have h6 := hx 6 _ _ rfl
  have h7 := hx 7 _ _ rfl
  rw [cel_int] at h0 h2 h3 h6 h7
  rw [Ycc] at h1
  rw [cel_snd] at h4
  rw [cel_ty] at h5
  obtain ⟨v0, v1, v2, v3, v4, v5, v5', v6, v7, rfl⟩ := len9 hl
  obtain ⟨y0, y1, y2, y3, y4, y5, y6, y7, rfl⟩ := len8 hxl
  ·skip
   simp only [List.drop_zero, List.take_succ_cons, List.take_zero, List.drop_succ_cons, List.getElem?_cons_zero, List.getElem?_cons_succ] at h0 h1 h2 h3 h4 h5 h6 h7
   obtain ⟨z0, c0, rfl, w0⟩ := DataW.trod_int Zeb h0
   obtain ⟨s1, c1, rfl, _⟩ := DataW.trod_string Ybc h1
   obtain ⟨z2, c2, rfl, w2⟩ := DataW.trod_int Zeb h2
   obtain ⟨z3, c3, rfl, w3⟩ := DataW.trod_int Zeb h3
   obtain ⟨z6, c6, rfl, w6⟩ := DataW.trod_int Zeb h6
   obtain ⟨z7, c7, rfl, w7⟩ := DataW.trod_int Zeb h7
   obtain ⟨y, cy, wy, _⟩ := open_tyc h5
   injection c0 with c0 _; injection c1 with c1 _; injection c2 with c2 _; injection c3 with c3 _; injection c6 with c6 _; injection c7 with c7 _
   simp only [tyCells, List.cons.injEq, and_true] at cy
   obtain ⟨cy1, cy2⟩ := cy
   subst c0 c1 c2 c3 c6 c7 cy1 cy2
   have hb4 : bulk y4.1 ≤ N := by
    simp only [bulk, Go.Proofs.YteicjpedahoilaaGreatDoor.Rows.uptoBulk, Go.Proofs.YteicjpedahoilaaGreatDoor.Rows.uptoBulkAll, List.map_cons, List.map_nil] at hb ⊢; omega
   have done : ∀ (ks : List Nd), Kd w (fun _ => True) ks v4 → (∀ k ∈ ks, okNd k) → (ks.map weight).sum ≤ bulk y4.1 →
     ∃ (t : Nd) (v : Value), [Value.int .i64 z0, .string s1, .int .i64 z2, .int .i64 z3, v4, .int .i64 y.kind, Str y.name, .int .i64 z6, .int .i64 z7] = ndCells t v ∧ Kd w (fun _ => True) t.kids v ∧ okNd t ∧ weight t ≤ bulk (DataW.agg (List.map (·.1) [((.lit (.int .i64 z0) : DataW H), ([] : List MemPlace)), (.lit (.string s1.data.toList), []), (.lit (.int .i64 z2), []), (.lit (.int .i64 z3), []), y4, y5, (.lit (.int .i64 z6), []), (.lit (.int .i64 z7), [])])) := by
    intro ks hk hok hc
    refine ⟨.mk z0 s1.data.toList z2 z3 ks y z6 z7, v4, rfl, hk, ?_, ?_⟩
    ·rw [Zdb]
     refine ⟨Vlb w0, Vlb w2, Vlb w3, wy, Vlb w6, Vlb w7, fun p hp => ?_⟩
     obtain ⟨k, hk1, rfl⟩ := List.mem_map.1 hp
     exact hok k hk1
    ·rw [Vkb]
     simp only [bulk, Go.Proofs.YteicjpedahoilaaGreatDoor.Rows.uptoBulk, Go.Proofs.YteicjpedahoilaaGreatDoor.Rows.uptoBulkAll, List.map_cons, List.map_nil] at hc ⊢
     show 1 + s1.data.toList.length + (ks.map weight).sum ≤ _
     omega
   rcases Go.Deep.open_slice und_snd h4 with ⟨e4, rfl⟩ | ⟨a, len, cap, m, n', D, Pl, e4, hba, hlc, hcm, hmm, rfl, hxs⟩
   ·injection e4 with e4 _
    subst e4
    exact done [] (Jb w _) (fun k hk => by cases hk) (Nat.zero_le _)
   ·injection e4 with e4 _
    subst e4
    have hlm : len ≤ m := by rw [hmm]; split <;> omega
    rw [cel_nd] at hxs
    have hle : bulkAll ((List.range len).map D) + 1 ≤ bulk (DataW.slice ((List.range len).map D) ((List.range (m - len)).map fun j => D (len + j))) := by
     simp only [bulk, bulkAll, Go.Proofs.YteicjpedahoilaaGreatDoor.Rows.uptoBulk]; omega
    have build : ∀ k, k ≤ len → ∃ l : List Nd, l.length = k ∧ (∀ i, (h : i < l.length) → ∃ v, w.cells? base (a.add (i * 9)) 9 = some (ndCells l[i] v) ∧ Kd w (fun _ => True) l[i].kids v) ∧ (∀ t ∈ l, okNd t) ∧ (l.map weight).sum ≤ bulkAll ((List.range k).map D) := by
     intro k
     induction k with
     | zero => intro _; exact ⟨[], rfl, fun i hi => by simp at hi, fun t ht => (by cases ht), Nat.zero_le _⟩
     | succ k ihk =>
      intro hk
      obtain ⟨l, hl1, hl2, hl3, hl4⟩ := ihk (by omega)
      obtain ⟨cs', q1, q2⟩ := hxs k (by omega)
      have hbk : bulk (D k) ≤ N := by
       have := Wqa ((List.range len).map D) (D k) (List.mem_map_of_mem (List.mem_range.2 (by omega)))
       simp only [] at hb4; omega
      obtain ⟨t, v, rfl, kt, ot, ct⟩ := ih n' cs' _ hbk q2
      refine ⟨l ++ [t], by simp [hl1], fun i hi => ?_, fun u hu => ?_, ?_⟩
      ·by_cases hik : i < l.length
       ·obtain ⟨v', e1, e2⟩ := hl2 i hik
        rw [List.getElem_append_left hik]; exact ⟨v', e1, e2⟩
       ·have hi' : i = l.length := by simp at hi; omega
        subst hi'
        rw [List.getElem_append_right (Nat.le_refl _)]
        simp only [Nat.sub_self, List.getElem_cons_zero]
        exact ⟨v, by rw [hl1]; exact q1, kt⟩
      ·rcases List.mem_append.1 hu with hu | hu
       ·exact hl3 u hu
       ·rw [List.mem_singleton.1 hu]; exact ot
      ·rw [List.range_succ, List.map_append, List.map_append, List.sum_append, Jna]
       have : bulkAll (List.map D [k]) = bulk (D k) := by simp [bulkAll, bulk, Go.Proofs.YteicjpedahoilaaGreatDoor.Rows.uptoBulkAll]
       rw [this]; simp only [List.map_cons, List.map_nil, List.sum_cons, List.sum_nil]; simp only [] at ct; omega
    obtain ⟨l, hl1, hl2, hl3, hl4⟩ := build len (Nat.le_refl _)
    refine done l ⟨some a, cap, by rw [hl1], by rw [hl1]; exact hlc, fun hpos => ?_⟩ hl3 (by simp only [] at hl4 hle ⊢; omega)
    obtain ⟨v0, h0, _⟩ := hl2 0 hpos
    obtain ⟨_, _, hc0⟩ := World.cells?_some h0
    have hc := hc0 0 (by omega)
    have hsp : a.spot = none := by
     cases hq : a.spot with
     | none => rfl
     | some y =>
      have : w.cell? ((a.add (0 * 9)).add 0) = none := by
       unfold World.cell?
       split
       ·simp [Addr.add, hq]
       ·rfl
      rw [this] at hc; simp [ndCells] at hc
    have ha : a = ⟨a.block, a.off, none⟩ := by cases a; simp only at hsp; rw [hsp]
    obtain ⟨xs', r1, r2⟩ := rowAt_nds (w := w) (b := a.block) (D := fun _ => True) l a.off (fun i hi => by
     obtain ⟨v, e1, e2⟩ := hl2 i hi
     refine ⟨v, ?_, e2⟩
     obtain ⟨_, _, hci⟩ := World.cells?_some e1
     intro j u hj
     have hj9 : j < 9 := by have := (List.getElem?_eq_some_iff.mp hj).1; simpa [ndCells] using this
     have := hci j hj9
     rw [hj] at this
     rw [← this]
     congr 1
     rw [ha, Addr.add_lit, Addr.add_lit])
    exact ⟨a.block, a.off, by rw [ha], trivial, xs', r1, r2⟩
set_option maxRecDepth 100000 in
theorem Ydc {r : Reach} {b0 : Nat} {v : Value} {d : DataW H} {p : List MemPlace} (hv : Value.okWide PP w r b0 26 v) (h : DataW.Trod enc PP w base sp held 26 v d p) : ∃ (t : Nd) (u : Value), v = ndV t u ∧ Kd w (fun _ => True) t.kids u ∧ okNd t ∧ weight t ≤ bulk d := by
 obtain ⟨fs, hfs⟩ := fields_some Vmb
 obtain ⟨cs, rfl, _⟩ := okWide_struct hfs hv
 obtain ⟨fuel, hf⟩ := h
 obtain ⟨t, u, ht, h1, h2, h3⟩ := open_nd _ fuel _ _ (Nat.le_refl _) hf
 refine ⟨t, u, ?_, h1, h2, h3⟩
 show Value.agg cs = Value.agg (ndCells t u).toArray
 rw [← ht]; simp [Value.cells]
end
end Go.Rk
namespace Go.Rk
open Go Go.RowKit
set_option linter.unusedVariables false
def FnV (P : Program) (q : Int → Bool) (v : Value) (w : World) : Prop := ∃ f fs cs, v = .func (.func f) fs cs ∧ goFn P f = true ∧ ∀ (k : Int) (w' : World), G w w' → Ret P f (fs ++ #[.int .i64 k] ++ cs) w' fun r w'' => r = .bool (q k) ∧ G w' w''
theorem FnV.grow {P : Program} {q : Int → Bool} {v : Value} {w w' : World} (h : FnV P q v w) (g : G w w') : FnV P q v w' := by
 obtain ⟨f, fs, cs, rfl, h1, h2⟩ := h
 exact ⟨f, fs, cs, rfl, h1, fun k w'' g' => h2 k w'' (g.trans g')⟩
theorem Zla {P : Program} {q : Int → Bool} {f : Nat} (hgo : goFn P f = true) (h : ∀ (k : Int) (w : World), Ret P f #[.int .i64 k] w fun r w' => r = .bool (q k) ∧ G w w') (w : World) : FnV P q (.func (.func f) #[] #[]) w :=
 ⟨f, #[], #[], rfl, hgo, fun k w' _ => by simpa using h k w'⟩
section
variable {P : Program} {Z : List PanicEntry → Act → World → Prop} {ops : List Oper} {cl : List Nat} {lv : List Bool} {W0 : World} {n : Nat} {K : Act → World → Prop} {k : Nat} {rest : List Oper} {σ : List Ent} {w : World} {d : Nat} {ty : TypeId} {pos : String} {after : Array Edge}
theorem sr_valg {g t : Nat} {want b : Bool} {c0 : Prop} {op : Op} {v : Value} {w' : World} (hb : (!Nat.beq (clOf cl k) 0 && !Nat.beq (clOf cl k) 3 && Nat.blt d n) = true)
  (hgd : ((ops.toArray[g]?).bind (·.dst)) = some t) (hlk : look σ t = some (c0, .bool b)) (hr : RunV P n σ (c0 ∧ b = want) w op ty v w') (hg : G w w')
  (h : (c0 ∧ b = want) → SR P Z ops cl lv W0 n K (k + 1) rest ((d, c0 ∧ b = want, v) :: σ) w') (h' : ¬ (c0 ∧ b = want) → SR P Z ops cl lv W0 n K (k + 1) rest ((d, c0 ∧ b = want, v) :: σ) w) :
  SR P Z ops cl lv W0 n K k (⟨some d, op, ty, pos, after, some (g, want)⟩ :: rest) σ w := fun hl a ha => by
 obtain ⟨h0, h1⟩ := Ur hl
 simp only [Bool.and_eq_true, Bool.not_eq_true'] at hb
 rw [List.length_cons, List.range'_succ]
 have hw := Xdb (op := op) (ty := ty) (pos := pos) (after := after) (want := want) (d := some d) hgd hlk ha
 refine ⟨_, h0, ?_⟩
 rw [if_neg (fun he => by rcases he with he | he <;> rw [he] at hb <;> simp at hb)]
 by_cases hh : c0 ∧ b = want
 ·rw [if_pos (hw.2 hh)]
  exact .inl ⟨v, w', hr _ _ _ _ a ha hh, fun _ => hg, h hh h1 _ (ha.put hb.2 (fun _ => rfl) (fun hn => absurd hh hn))⟩
 ·rw [if_neg (fun hq => hh (hw.1 hq))]
  exact h' hh h1 _ (ha.put hb.2 (fun hq => absurd hq hh) (fun _ => rfl))
theorem Yec {g t0 : Nat} {want bb : Bool} {c0 : Prop} {t e z by_ m : Nat} {ps : Array (Nat × Operand)} {vs : List (Nat × Value)} {zv : Value} (l : List Value) (hb : (!Nat.beq (clOf cl k) 0 && !Nat.beq (clOf cl k) 3 && Nat.blt d n) = true) (hgd : ((ops.toArray[g]?).bind (·.dst)) = some t0) (hlk : look σ t0 = some (c0, .bool bb))
  (ht : tyElem P t = some (e, z, by_)) (hz : zeroOf P e = some zv)
  (hx : Jya n σ (c0 ∧ bb = want) ps vs) (hm : (Nat.ble (m * z) 16777216 && !Nat.beq (m * z) 0 && Nat.beq vs.length m) = true) (hf : fillS z 0 vs = some l)
  (h : ∀ b w1, G w w1 → (c0 ∧ bb = want → Blk w1 b e l) → SR P Z ops cl lv W0 n K (k + 1) rest ((d, c0 ∧ bb = want, .slice (some ⟨b, 0, none⟩) m m) :: σ) w1) :
  SR P Z ops cl lv W0 n K k (⟨some d, .buildSlice t m ps, ty, pos, after, some (g, want)⟩ :: rest) σ w := by
 obtain ⟨hu, i, hi, hsz, _⟩ := Uh ht
 obtain ⟨i', hi', hz'⟩ := Xka hz
 obtain rfl : i = i' := Option.some.inj (hi.symm.trans hi')
 simp only [Bool.and_eq_true, Bool.not_eq_true'] at hm
 have hm1 : ¬ (m * z > 2 ^ 24) := by have := Nat.le_of_ble_eq_true hm.1.1; omega
 have hm2 : ¬ (m * z = 0) := by intro he; rw [he] at hm; simp at hm
 have hvl := Nat.eq_of_beq_eq_true hm.2
 have hfill : Instr.fill (fun i => some (i * z, z)) ((Array.range (m * z)).map (zv.cells[· % zv.cells.size]!)) vs = some l.toArray := by
  have h1 := Ykb z vs 0 [] ((Array.range (m * z)).map (zv.cells[· % zv.cells.size]!)).toList l hf (by simp) (by simp [hvl]) (by simp)
  have := Jza _ _ _ _ h1
  rwa [Array.toArray_toList] at this
 refine sr_valg hb hgd hlk (w' := w.alloc (.cells l.toArray e)) (v := .slice (some ⟨w.heap.size, 0, none⟩) m m) (fun d pos after g a ha hc => ?_) (Jf w e l).g (fun hc => h _ _ (Jf w e l).g (fun _ => (Jf w e l).blk)) (fun hc => h _ _ (G.refl w) (fun hq => absurd hq hc))
 have hx' := hx a ha hc
 simp only [execOp, Instr.buildSlice, Sem.run_bind, run_underlying hu, Result.andThen_ok, sizeOf, typeInfo, run_program, hi, Sem.run_pure, hsz, if_neg hm1, if_neg hm2, zeroValue, hz']
 rw [hx', hfill]
 simp [newRow]
end
section
variable {P : Program} {n : Nat} {σ : List Ent} {c : Prop} {wb : World} {ty : TypeId} {v : Value}
theorem rd_sl_from0 {t e z by_ : Nat} {x y : Operand} {o : Option Addr} {m q : Nat} {k : IntKind} (ht : tyElem P t = some (e, z, by_)) (h : Ev n σ c x (.slice o m q)) (h' : Ev n σ c y (.int k 0)) :
  Rd P n σ c wb (.slice t x (some y) none none) ty (.slice o m q) := fun d pos after gd a ha hc w1 _ => by
 obtain ⟨hu, inf, hin, hz, _⟩ := Uh ht
 have e2 : o.map (fun b => Addr.add b 0) = o := by cases o <;> simp [Addr.add]
 simp only [execOp, h a ha hc, h' a ha hc, Instr.sliceAt, Option.map_some, Option.map_none, Sem.run_bind, run_underlying hu, Result.andThen_ok]
 simp [Instr.slice, run_underlying hu, Instr.sliceBounds, Instr.sliceBound, asIntOf, run_size hin, e2]
end
end Go.Rk
namespace Go.Rk
open Go Go.RowKit
set_option linter.unusedVariables false
section
variable {α : Type} {f : α → List Value} {z : Nat}
def RowF (f : α → List Value) (w : World) (l : List α) (v : Value) : Prop :=
 ∃ p c, v = .slice p l.length c ∧ l.length ≤ c ∧ (0 < l.length → ∃ b o, p = some ⟨b, o, none⟩ ∧ RowAt w b o (l.flatMap f))
theorem RowF.grow {w w' : World} {l : List α} {v : Value} (h : RowF f w l v) (g : G w w') : RowF f w' l v := by
 obtain ⟨p, c, rfl, hc, h⟩ := h
 refine ⟨p, c, rfl, hc, fun h0 => ?_⟩
 obtain ⟨b, o, rfl, hR⟩ := h h0
 exact ⟨b, o, rfl, hR.grow g⟩
end
end Go.Rk
namespace Go.Rk
open Go Go.RowKit
set_option linter.unusedVariables false
/-! loops that carry facts on the world -/
def BlkE (b : Nat) (e : TypeId) (l : List Value) (w : World) : Prop := Blk w b e l
def andE (p q : World → Prop) (w : World) : Prop := p w ∧ q w
def nilE (w : World) : Prop := True
theorem blkE {w : World} {b : Nat} {e : TypeId} {l : List Value} (h : Blk w b e l) : BlkE b e l w := h
theorem Wra {p q : World → Prop} {w : World} (h : p w) (k : q w) : andE p q w := ⟨h, k⟩
theorem Jcb (w : World) : nilE w := trivial
section
variable {P : Program} {n : Nat} {N T : Act → World → Prop} {X : List (Nat × (Act → World → Prop))} {σ : List Ent} {w : World}
theorem sc_loop3 {c : Code} {α : Type} (I : α → World → Prop) (E : World → Prop) (σc : List Ent) (σf : α → List Ent) (μ : α → Nat) (x0 : α) (h0 : I x0 w) (hE : E w) (hs : Sub (σf x0 ++ σc) σ)
  (round : ∀ x w, I x w → E w → SC P n c (fun a' w' => ∃ y, Kn n (σf y ++ σc) a' ∧ I y w' ∧ E w' ∧ μ y < μ x) X T (σf x ++ σc) w) : SC P n (.loop c) N X T σ w := by
 refine Zba (fun x w => I x w ∧ E w) (fun x => σf x ++ σc) μ x0 ⟨h0, hE⟩ hs fun x w ⟨h1, h2⟩ => ?_
 refine fun a ha => Code.wp_mono (fun e a w q => ?_) (round x w h1 h2 a ha)
 cases e with
 | normal => obtain ⟨y, q1, q2, q3, q4⟩ := q; exact ⟨y, q1, ⟨q2, q3⟩, q4⟩
 | _ => exact q
end
theorem krow_ones {w : World} {D : Nat → Prop} : ∀ {ls : List Nd} {news : List Value}, KRow w D ls news → onesB news = true
 | [], news, h => by rw [show news = [] from h]; rfl
 | t :: ls, news, h => by
  obtain ⟨v, r, rfl, hkn, hr⟩ := h
  rw [Ysb] at hkn
  obtain ⟨p, c, rfl, _⟩ := hkn
  have := krow_ones hr
  unfold onesB at this ⊢
  rw [List.all_append, this, Bool.and_true]; rfl
/-! own rows -/
def Dx (base : Nat) (X : List Nat) (b : Nat) : Prop := base ≤ b ∧ b ∉ X
def OwnK (e : TypeId) (D : Nat → Prop) (base : Nat) (w : World) (ks : List Nd) (s : Value) : Prop :=
 ∃ xs, w.ownsRow base e 9 s ks.length xs ∧ KRow w (fun b => D b ∧ some b ≠ s.ownBlock) ks xs ∧ ∀ b, s.ownBlock = some b → D b
section
variable {e : TypeId} {D : Nat → Prop} {base : Nat} {w w' : World} {ks : List Nd} {s : Value}
theorem ownK_nil (e : TypeId) (D : Nat → Prop) (base : Nat) (w : World) : OwnK e D base w [] (.slice none 0 0) := ⟨[], Qq _ _ _ _, krow_nil, fun b h => by cases h⟩
theorem OwnK.slice (h : OwnK e D base w ks s) : ∃ a c, s = .slice a ks.length c := by
 obtain ⟨xs, h1, _⟩ := h
 obtain ⟨a, c, h2, _⟩ := own_sl h1
 exact ⟨a, c, h2⟩
theorem OwnK.ge (h : OwnK e D base w ks s) : ∀ k, s.ownBlock = some k → base ≤ k := by
 obtain ⟨xs, h1, _⟩ := h
 exact fun k hk => (h1.lt k hk).1
theorem OwnK.lt (h : OwnK e D base w ks s) : ∀ k, s.ownBlock = some k → k < w.heap.size := by
 obtain ⟨xs, h1, _⟩ := h
 exact fun k hk => (h1.lt k hk).2
theorem OwnK.ne (h : OwnK e D base w ks s) {b : Nat} (hb : ¬ D b) : some b ≠ s.ownBlock := by
 obtain ⟨xs, _, _, h3⟩ := h
 exact fun he => hb (h3 b he.symm)
theorem OwnK.grow (h : OwnK e D base w ks s) (g : G w w') : OwnK e D base w' ks s := by
 obtain ⟨xs, h1, h2, h3⟩ := h
 exact ⟨xs, Zca h1 g, h2.grow g, h3⟩
theorem OwnK.keep (h : OwnK e D base w ks s) {b : Nat} (hg : w.grownBy w' (some b)) (hb : ¬ D b) : OwnK e D base w' ks s := by
 obtain ⟨xs, h1, h2, h3⟩ := h
 refine ⟨xs, Vx h1 hg (.inr fun he => hb (h3 b he)), h2.keep hg fun k hk _ he => ?_, h3⟩
 injection he with he
 exact hb (he ▸ hk.1)
theorem OwnK.kd (h : OwnK e D base w ks s) {D' : Nat → Prop} (hD : ∀ b, D b → D' b) : Kd w D' ks s := by
 obtain ⟨xs, h1, h2, h3⟩ := h
 exact kd_own h1 rfl (h2.mono fun b hb _ => hD b hb.1) fun b hb => hD b (h3 b hb)
theorem OwnK.append {ls : List Nd} {news : List Value} {a' : Option Addr} {c' : Nat} {xs : List Value} (h : OwnK e D base w ks s) (hx : w.ownsRow base e 9 s ks.length xs) (hX : KRow w (fun b => D b ∧ some b ≠ s.ownBlock) ks xs)
  (hn : KRow w (fun b => D b ∧ some b ≠ s.ownBlock) ls news) (hD : D w.heap.size) (ho : w'.ownsRow base e 9 (.slice a' (ks.length + ls.length) c') (ks.length + ls.length) (xs ++ news)) (hg : w.grownBy w' s.ownBlock)
  (hat : (Value.slice a' (ks.length + ls.length) c').ownBlock = s.ownBlock ∨ (Value.slice a' (ks.length + ls.length) c').ownBlock = some w.heap.size) : OwnK e D base w' (ks ++ ls) (.slice a' (ks ++ ls).length c') := by
 have hlen : (ks ++ ls).length = ks.length + ls.length := by simp
 refine ⟨xs ++ news, by rw [hlen]; exact ho, ?_, ?_⟩
 ·have h1 := Uib hX hn
  rw [hlen]
  refine Jq (fun b hb hlt => ⟨hb.1, ?_⟩) (fun b hb hlt => hg.block b hlt hb.2) _ _ h1
  rcases hat with he | he <;> rw [he]
  ·exact hb.2
  ·intro e; injection e with e; omega
 ·rw [hlen]
  intro b hb
  rcases hat with he | he <;> rw [he] at hb
  ·obtain ⟨_, _, _, h3⟩ := h; exact h3 b hb
  ·injection hb with hb; exact hb ▸ hD
end
section
variable {P : Program} {Z : List PanicEntry → Act → World → Prop} {ops : List Oper} {cl : List Nat} {lv : List Bool} {W0 : World} {n : Nat} {K : Act → World → Prop} {k : Nat} {rest : List Oper} {σ : List Ent} {w : World} {d : Nat} {ty : TypeId} {pos : String} {after : Array Edge}
theorem Yfc {t e base q q' : Nat} {x y : Operand} {s zv : Value} {news : List Value} {b' o' : Nat} {D : Nat → Prop} {ks ls : List Nd} (hb : (Nat.beq (clOf cl k) 2 && Nat.blt d n) = true) (ht : tyElem P t = some (e, 9, 104)) (hzv : zeroOf P e = some zv)
  (hzs : zv.cells.size = 9) (hx : Ev n σ True x s) (hO : OwnK e D base w ks s) (hy : Ev n σ True y (.slice (some ⟨b', o', none⟩) q q')) (hq : ls.length = q) (hn : RowAt w b' o' news) (hK : KRow w (fun b => D b ∧ some b ≠ s.ownBlock) ls news)
  (hlen : ks.length + ls.length ≤ 10000000) (hbase : base ≤ w.heap.size) (hD : D w.heap.size)
  (h : ∀ a' c' w', OwnK e D base w' (ks ++ ls) (.slice a' (ks ++ ls).length c') → w.grownBy w' s.ownBlock → SR P Z ops cl lv W0 n K (k + 1) rest ((d, True, .slice a' (ks ++ ls).length c') :: σ) w') :
  SR P Z ops cl lv W0 n K k (⟨some d, .call { callee := .builtin .append, args := #[x, y], argTypes := #[t, t] }, ty, pos, after, none⟩ :: rest) σ w := by
 obtain ⟨xs, h1, h2, h3⟩ := id hO
 subst hq
 have ones := krow_ones hK
 refine Jt hb ht hzv hzs (by decide) hx h1 hy (Jla hK) hn ones (by simp only [maxLen]; omega) (by omega) hbase fun a' c' w' ho hg hat => ?_
 have := h a' c' w' (hO.append h1 h2 hK hD ho hg hat) hg
 rwa [List.length_append] at this
end
end Go.Rk
namespace Go.Rk
open Go Go.RowKit
theorem Yhb {l : List Nd} {i : Nat} (f : Nd → Nat) (h : i < l.length) : ((l.take (i + 1)).map f).sum = ((l.take i).map f).sum + f l[i] := by
 rw [Vja f l i h, List.sum_append]; simp
theorem rcount_ok : ∀ (t : Nd) (v : Value) (D : Nat → Prop) (w : World), Kd w D t.kids v → count t ≤ 4611686018427387904 → Ret PP fn_r03_Count #[ndV t v] w fun r w' => r = .int .i64 (count t : Nat) ∧ G w w' := by
 refine Nd.ind fun t ih v D w hk hc => ?_
 obtain ⟨p, c, rfl, hcap, hks⟩ := hk
 have g := G.refl w
 have hlen := Qm t
 refine Ym (m := 21) Jvb rfl rfl [(0, True, _)] (Za rfl (Zd _)) ?_
 refine Zg fun K1 hK1 => ?_
 refine Zf [1, 3] ?_
 refine Wd rfl (Zb rfl) rfl ?_
 intro b1 w1 N1
 have l1 := N1.ge g
 have g := g.trans (N1.g)
 have B1 := N1.blk
 refine Zc rfl (fun _ => Ze Zl) ?_
 refine Zj [(1, _, _), (2, _, _)] (Za rfl (Za rfl (Zd _))) ?_
 refine Zh (hK1 _ _ ?_)
 refine Zg fun K2 hK2 => ?_
 refine Zf [3] ?_
 refine Zc rfl (fun _ => Ze Zl) ?_
 refine Zh (hK2 _ _ ?_)
 refine Zg fun K3 hK3 => ?_
 refine Zg fun K4 hK4 => ?_
 refine Zf [3] ?_
 refine Zc rfl (fun _ => Ze Zl) ?_
 refine Zh (hK4 _ _ ?_)
 refine Yp ?_
 refine Wv (fun (i : Nat) u1 => (i ≤ t.kids.length) ∧ G w1 u1) [(1, True, _), (2, True, _)] (fun (i : Nat) => [(3, True, .int .i64 ((1 + ((t.kids.take i).map count).sum : Nat) : Int)), (4, True, .int .i64 i)]) (fun (i : Nat) => t.kids.length - i) (0) ⟨by simp, G.refl _⟩ (Za rfl (Za rfl (Za rfl (Za rfl (Zd _))))) ?_
 rintro i u1 ⟨hI1, gl1⟩
 have g := g.trans gl1
 replace B1 := B1.grow (gl1)
 refine Zg fun K5 hK5 => ?_
 refine Zg fun K6 hK6 => ?_
 refine Zf [3, 3, 0, 3, 3] ?_
 refine Zc rfl (fun _ => Zi (Zb rfl)) ?_
 refine Zc rfl (fun _ => Zm Zv (Zb rfl)) ?_
 refine Ya rfl (Zt Zq (Zb rfl) (fun _ => B1.at_ rfl)) ?_
 refine Zc rfl (fun _ => Xx Zo (Zb rfl)) ?_
 refine Zc rfl (fun _ => Vh (Zb rfl) (Zb rfl)) ?_
 refine Zj [(1, _, _), (2, _, _), (3, _, _), (4, _, _), (9, _, _)] (Za rfl (Za rfl (Za rfl (Za rfl (Za rfl (Zd _)))))) ?_
 refine Zh (hK6 _ _ ?_)
 refine Zz (Zb rfl) (fun h1 => ?_) (fun h1 => ?_)
 ·replace h1 : i < t.kids.length := by simp only [decide_eq_true_eq] at h1; omega
  obtain ⟨b, o, rfl, hD, xs, hR, hX⟩ := hks (by omega)
  obtain ⟨p', c', hcell, hkid⟩ := Yna hR hX h1
  have hck := Ju h1
  refine Yq (hK5 _ _ ?_)
  refine Yi [(1, _, _), (2, _, _), (3, _, _), (4, _, _)] (Za rfl (Za rfl (Za rfl (Za rfl (Zd _))))) ?_
  refine Zg fun K7 hK7 => ?_
  refine Yp ?_
  refine Zf [3, 3, 0, 3, 3, 0, 1, 3, 3] ?_
  refine Zc rfl (fun _ => Zi (Zb rfl)) ?_
  refine Zc rfl (fun _ => Zm Zv (Zb rfl)) ?_
  refine Ya rfl (Zt Zq (Zb rfl) (fun _ => B1.at_ rfl)) ?_
  refine Zc rfl (fun _ => Zi (Zb rfl)) ?_
  refine Zc rfl (fun _ => Uc Zo (Zb rfl) (Zb rfl) (fun _ => by omega)) ?_
  refine Ya rfl (Yb Zr (Zb rfl) rfl (fun _ => hcell.grow g)) ?_
  refine Xe rfl (Zu Ula Yl (Zk (Zb rfl) (Zn)) rfl) (ih _ (List.getElem_mem h1) _ _ _ (hkid.grow g) (by omega)) (fun w18 g18 => ?_)
  have g := g.trans (g18)
  try have gl1 := gl1.trans (g18)
  replace B1 := B1.grow (g18)
  refine Zc rfl (fun _ => Xq (Zb rfl) (Zb rfl) (fun _ => by omega)) ?_
  refine Zc rfl (fun _ => Ze (Zb rfl)) ?_
  refine Zj [(1, _, _), (2, _, _), (3, _, _), (4, _, _)] (Za rfl (Za rfl (Za rfl (Za rfl (Zd _))))) ?_
  refine Zh (hK7 _ _ ?_)
  refine Zf [3, 3, 3] ?_
  refine Zc rfl (fun _ => Zi (Zb rfl)) ?_
  refine Zc rfl (fun _ => Xq (Zb rfl) Zl (fun _ => by omega)) ?_
  refine Zc rfl (fun _ => Ze (Zb rfl)) ?_
  refine Zj [(3, _, _), (4, _, _), (1, _, _), (2, _, _)] (Za rfl (Za rfl (Za rfl (Za rfl (Zd _))))) ?_
  refine Zh (fun a ha => ?_)
  have e : ((1 + ((t.kids.take i).map count).sum : Nat) : Int) + (count t.kids[i] : Nat) = ((1 + ((t.kids.take (i + 1)).map count).sum : Nat) : Int) := by rw [Yhb count h1]; omega
  rw [e] at ha
  exact ⟨i + 1, ha, ⟨h1, gl1⟩, by omega⟩
 replace h1 : i = t.kids.length := by simp only [decide_eq_false_iff_not] at h1; omega
 refine Wa rfl (hK3 _ _ ?_)
 refine Yi [(2, _, _), (3, _, _)] (Za rfl (Za rfl (Zd _))) ?_
 refine Zg fun K8 hK8 => ?_
 refine Zf [3, 3] ?_
 refine Zc rfl (fun _ => Zi (Zb rfl)) ?_
 refine Zc rfl (fun _ => Ze (Zb rfl)) ?_
 refine Zh (hK8 _ _ ?_)
 refine Yf (Yj rfl rfl ?_)
 refine ⟨?_, g⟩
 rw [h1, List.take_length, ← Ww]
theorem scount_ok : ∀ (t : Nd) (v : Value) (D : Nat → Prop) (w : World), Kd w D t.kids v → count t ≤ 4611686018427387904 → Ret PP Uvb #[ndV t v] w fun r w' => r = .int .i64 (count t : Nat) ∧ G w w' := by
 refine Nd.ind fun t ih v D w hk hc => ?_
 obtain ⟨p, c, rfl, hcap, hks⟩ := hk
 have g := G.refl w
 have hlen := Qm t
 refine Ym (m := 19) Xmb rfl rfl [(0, True, _)] (Za rfl (Zd _)) ?_
 refine Zg fun K1 hK1 => ?_
 refine Zf [1, 3] ?_
 refine Wd rfl (Zb rfl) rfl ?_
 intro b1 w1 N1
 have l1 := N1.ge g
 have g := g.trans (N1.g)
 have B1 := N1.blk
 refine Zc rfl (fun _ => Ze Zl) ?_
 refine Zj [(1, _, _), (2, _, _)] (Za rfl (Za rfl (Zd _))) ?_
 refine Zh (hK1 _ _ ?_)
 refine Zg fun K2 hK2 => ?_
 refine Zf [3] ?_
 refine Zc rfl (fun _ => Ze Zl) ?_
 refine Zh (hK2 _ _ ?_)
 refine Zg fun K3 hK3 => ?_
 refine Zg fun K4 hK4 => ?_
 refine Zf [3, 0, 3, 3] ?_
 refine Zc rfl (fun _ => Zm Zv (Zb rfl)) ?_
 refine Ya rfl (Zt Zq (Zb rfl) (fun _ => B1.at_ rfl)) ?_
 refine Zc rfl (fun _ => Xx Zo (Zb rfl)) ?_
 refine Zc rfl (fun _ => Zi Zl) ?_
 refine Zj [(2, _, _), (3, _, _), (7, _, _), (8, _, _), (9, _, _)] (Za rfl (Za rfl (Za rfl (Za rfl (Za rfl (Zd _)))))) ?_
 refine Zh (hK4 _ _ ?_)
 refine Yp ?_
 refine Wv (fun (i : Nat) u1 => (i ≤ t.kids.length) ∧ G w1 u1) [(2, True, _), (7, True, _), (8, True, _)] (fun (i : Nat) => [(3, True, .int .i64 ((1 + ((t.kids.take i).map count).sum : Nat) : Int)), (9, True, .int .i64 i)]) (fun (i : Nat) => t.kids.length - i) (0) ⟨by simp, G.refl _⟩ (Za rfl (Za rfl (Za rfl (Za rfl (Za rfl (Zd _)))))) ?_
 rintro i u1 ⟨hI1, gl1⟩
 have g := g.trans gl1
 replace B1 := B1.grow (gl1)
 refine Zg fun K5 hK5 => ?_
 refine Zf [3] ?_
 refine Zc rfl (fun _ => Vh (Zb rfl) (Zb rfl)) ?_
 refine Zh (hK5 _ _ ?_)
 refine Yi [(2, _, _), (3, _, _), (7, _, _), (8, _, _), (9, _, _), (10, _, _)] (Za rfl (Za rfl (Za rfl (Za rfl (Za rfl (Za rfl (Zd _))))))) ?_
 refine Zg fun K6 hK6 => ?_
 refine Zz (Zb rfl) (fun h1 => ?_) (fun h1 => ?_)
 ·replace h1 : i < t.kids.length := by simp only [decide_eq_true_eq] at h1; omega
  obtain ⟨b, o, rfl, hD, xs, hR, hX⟩ := hks (by omega)
  obtain ⟨p', c', hcell, hkid⟩ := Yna hR hX h1
  have hck := Ju h1
  refine Yq (hK6 _ _ ?_)
  refine Yi [(2, _, _), (3, _, _), (7, _, _), (8, _, _), (9, _, _)] (Za rfl (Za rfl (Za rfl (Za rfl (Za rfl (Zd _)))))) ?_
  refine Zg fun K7 hK7 => ?_
  refine Yp ?_
  refine Zg fun K8 hK8 => ?_
  refine Zf [3, 0, 1, 2] ?_
  refine Zc rfl (fun _ => Uc Zo (Zb rfl) (Zb rfl) (fun _ => by omega)) ?_
  refine Ya rfl (Yb Zr (Zb rfl) rfl (fun _ => hcell.grow g)) ?_
  refine Xr rfl Yo rfl ?_
  intro b5 w5 N5
  have x5_1 := N5.ne B1
  have l5 := N5.ge g
  try have l5_gl1 := N5.ge gl1
  have g := g.trans (N5.g)
  try have gl1 := gl1.trans (N5.g)
  replace B1 := B1.grow (N5.g)
  have B5 := N5.blk
  refine Yu rfl Xi (Zb rfl) (Zb rfl) rfl rfl B5 rfl rfl ?_
  intro wS1 hgS1 hzS1
  clear B5
  intro B5
  replace B1 := B1.keep hgS1 (by intro h; injection h with h; first | exact x5_1 h.symm | exact x1_5 h | omega)
  have g := Xo g hgS1 (by intro k hk; injection hk with hk; omega)
  first | replace gl1 := Xo gl1 hgS1 (by intro k hk; injection hk with hk; omega) | clear gl1 | skip
  refine Zj [(2, _, _), (3, _, _), (5, _, _), (7, _, _), (8, _, _), (9, _, _)] (Za rfl (Za rfl (Za rfl (Za rfl (Za rfl (Za rfl (Zd _))))))) ?_
  refine Zh (hK8 _ _ ?_)
  refine Zf [3, 0, 1, 3, 3] ?_
  refine Zc rfl (fun _ => Zi (Zb rfl)) ?_
  refine Ya rfl (Yb Zr (Zb rfl) rfl (fun _ => B5.row)) ?_
  refine Xe rfl (Zu Yta Yl (Zk (Zb rfl) (Zn)) rfl) (ih _ (List.getElem_mem h1) _ _ _ (hkid.grow g) (by omega)) (fun w15 g15 => ?_)
  have g := g.trans (g15)
  try have gl1 := gl1.trans (g15)
  replace B1 := B1.grow (g15)
  replace B5 := B5.grow (g15)
  refine Zc rfl (fun _ => Xq (Zb rfl) (Zb rfl) (fun _ => by omega)) ?_
  refine Zc rfl (fun _ => Ze (Zb rfl)) ?_
  refine Zj [(2, _, _), (3, _, _), (7, _, _), (8, _, _), (9, _, _)] (Za rfl (Za rfl (Za rfl (Za rfl (Za rfl (Zd _)))))) ?_
  refine Zh (hK7 _ _ ?_)
  refine Zf [3, 3] ?_
  refine Zc rfl (fun _ => Xq (Zb rfl) Zl (fun _ => by omega)) ?_
  refine Zc rfl (fun _ => Zi (Zb rfl)) ?_
  refine Zj [(3, _, _), (9, _, _), (2, _, _), (7, _, _), (8, _, _)] (Za rfl (Za rfl (Za rfl (Za rfl (Za rfl (Zd _)))))) ?_
  refine Zh (fun a ha => ?_)
  have e : ((1 + ((t.kids.take i).map count).sum : Nat) : Int) + (count t.kids[i] : Nat) = ((1 + ((t.kids.take (i + 1)).map count).sum : Nat) : Int) := by rw [Yhb count h1]; omega
  rw [e] at ha
  exact ⟨i + 1, ha, ⟨h1, gl1⟩, by omega⟩
 replace h1 : i = t.kids.length := by simp only [decide_eq_false_iff_not] at h1; omega
 refine Wa rfl (hK3 _ _ ?_)
 refine Yi [(2, _, _), (3, _, _)] (Za rfl (Za rfl (Zd _))) ?_
 refine Zg fun K9 hK9 => ?_
 refine Zf [3, 3] ?_
 refine Zc rfl (fun _ => Zi (Zb rfl)) ?_
 refine Zc rfl (fun _ => Ze (Zb rfl)) ?_
 refine Zh (hK9 _ _ ?_)
 refine Yf (Yj rfl rfl ?_)
 refine ⟨?_, g⟩
 rw [h1, List.take_length, ← Ww]
end Go.Rk
namespace Go.Rk
open Go Go.RowKit
theorem Jv {α : Type} {l : List α} {i : Nat} (h : i < l.length) : l.take (i + 1) = l.take i ++ [l[i]] := by
 rw [List.take_add_one, List.getElem?_eq_getElem h]; rfl
def RetNd (t : Nd) (base : Nat) (r : Value) (w : World) : Prop := ∃ p c, r = ndV t (.slice p t.kids.length c) ∧ Kd w (fun b => base ≤ b) t.kids (.slice p t.kids.length c)
def listN (t : Nd) : List Nd := para (fun t l => t :: l.flatten) t
theorem Wdb (t : Nd) : listN t = t :: t.kids.flatMap listN := by rw [listN, Xfa, List.flatMap_def]; rfl
theorem Web : ∀ t, (listN t).length = count t := by
 refine Nd.ind fun t ih => ?_
 rw [Wdb, Ww, List.length_cons, List.length_flatMap, Nat.add_comm]
 congr 2
 exact List.map_congr_left ih
theorem Wfb {l : List Nd} {i : Nat} (h : i < l.length) : (l.take (i + 1)).flatMap listN = (l.take i).flatMap listN ++ listN l[i] := by rw [Jv h, List.flatMap_append]; simp only [List.flatMap_cons, List.flatMap_nil, List.append_nil]
end Go.Rk
namespace Go.Rk
open Go Go.RowKit
def typK (k : Int) : Bool := anyK [7, 8] k
def expK (k : Int) : Bool := anyK [28, 29, 30, 31, 32, 33, 35, 36, 37, 27, 34, 24, 25, 26, 38] k
def stK (k : Int) : Bool := anyK [6, 10, 11, 12, 13, 14, 15, 16, 17, 21, 18, 19, 20, 22] k
def memK (l : List Int) (k : Int) : Bool := decide (k ∈ l)
theorem synname_ok (s : List UInt8) (w : World) (hL : Laid w) (hb3 : 6 ≤ w.heap.size) : Ret PP Zmc #[Str s] w fun v w' => v = .bool (nameB s) ∧ G w w' := by
  have g := G.refl w
  refine Ym (m := 34) Vab rfl rfl [(0, True, _)] (Za rfl (Zd _)) ?_
  refine Zg fun K1 hK1 => ?_
  refine Zf [3] ?_
  refine Zc rfl (fun _ => Ze Zl) ?_
  refine Zh (hK1 _ _ ?_)
  refine Zg fun K2 hK2 => ?_
  refine Zf [3, 1, 3, 3, 3, 3, 3, 3, 3] ?_
  refine Zc rfl (fun _ => Zi (Zb rfl)) ?_
  refine Yd rfl (Zu go_scan_Scan Yl (Zk (Zb rfl) (Zn)) rfl) (scan_ok s _ (hL.grow g) (by have := g.size; omega)) ?_
  rintro v8 w8 ⟨l, rfl, hT, g8⟩
  obtain ⟨a, c, rfl, hr⟩ := toks_slice hT
  refine ⟨fun _ => g8, ?_⟩
  have g := g.trans g8
  refine Zc rfl (fun _ => Zi (Zb rfl)) ?_
  refine Zc rfl (fun _ => Wu (Zb rfl) rfl) ?_
  refine Zc rfl (fun _ => Wu (Zb rfl) rfl) ?_
  refine Zc rfl (fun _ => Wu (Zb rfl) rfl) ?_
  refine Zc rfl (fun _ => Ze (Zb rfl)) ?_
  refine Zc rfl (fun _ => Ze (Zb rfl)) ?_
  refine Zc rfl (fun _ => Ze (Zb rfl)) ?_
  refine Zj [(0, _, _), (2, _, _), (3, _, _), (5, _, _)] (Za rfl (Za rfl (Za rfl (Za rfl (Zd _))))) ?_
  refine Zh (hK2 _ _ ?_)
  refine Zg fun K3 hK3 => ?_
  refine Zf [3, 3, 3, 3, 3, 3, 3, 3, 3, 3, 3, 0, 3, 3, 3, 3, 3, 3, 0, 3, 3, 3, 3] ?_
  refine Zc rfl (fun _ => Zi (Zb rfl)) ?_
  refine Zc rfl (fun _ => Yg (Zb rfl) Zl) ?_
  refine Zc rfl (fun _ => Zi (Zb rfl)) ?_
  refine Zs rfl rfl rfl (fun _ => Zi (Zb rfl)) ?_
  refine Zs rfl rfl rfl (fun _ => Xx Xk (Zy rfl id)) ?_
  refine Zs rfl rfl rfl (fun _ => Yg (Zy rfl id) Zl) ?_
  refine Zc rfl (fun _ => Ye (Zb rfl) (Zy rfl id)) ?_
  refine Zc rfl (fun _ => Zi (Zb rfl)) ?_
  refine Zs rfl rfl rfl (fun _ => Zi (Zb rfl)) ?_
  refine Zs rfl rfl rfl (fun _ => Xc Xk (Zy rfl id) Zl (fun hc => by have := of_decide_eq_true (Bool.and_eq_true_iff.1 hc.2).2; omega) (fun hc => (hr (by have := of_decide_eq_true (Bool.and_eq_true_iff.1 hc.2).2; omega)).1)) ?_
  refine Zs rfl rfl rfl (fun _ => Zm Qd (Zy rfl id)) ?_
  refine Yr rfl rfl rfl (Zt Yy (Zy rfl id) (fun hc => (hr (by have := of_decide_eq_true (Bool.and_eq_true_iff.1 hc.2).2; omega)).2 0 _ rfl)) ?_
  refine Zs rfl rfl rfl (fun _ => Yg (Zy rfl id) Zl) ?_
  refine Zc rfl (fun _ => Ye (Zb rfl) (Zy rfl id)) ?_
  refine Zc rfl (fun _ => Zi (Zb rfl)) ?_
  refine Zs rfl rfl rfl (fun _ => Zi (Zb rfl)) ?_
  refine Zs rfl rfl rfl (fun _ => Xc Xk (Zy rfl id) Zl (fun hc => by have := of_decide_eq_true (Bool.and_eq_true_iff.1 (Bool.and_eq_true_iff.1 hc.2).1).2; omega) (fun hc => (hr (by have := of_decide_eq_true (Bool.and_eq_true_iff.1 (Bool.and_eq_true_iff.1 hc.2).1).2; omega)).1)) ?_
  refine Zs rfl rfl rfl (fun _ => Zm Vz (Zy rfl id)) ?_
  refine Yr rfl rfl rfl (Zt Yt (Zy rfl id) (fun hc => (hr (by have := of_decide_eq_true (Bool.and_eq_true_iff.1 (Bool.and_eq_true_iff.1 hc.2).1).2; omega)).2 1 _ rfl)) ?_
  refine Zs rfl rfl rfl (fun _ => Zi (Zb rfl)) ?_
  refine Zs rfl rfl rfl (fun _ => Yh (Zy rfl id) (Zy rfl id)) ?_
  refine Zc rfl (fun _ => Ye (Zb rfl) (Zy rfl id)) ?_
  refine Zc rfl (fun _ => Ze (Zb rfl)) ?_
  refine Zj [(2, _, _)] (Za rfl (Zd _)) ?_
  refine Zh (hK3 _ _ ?_)
  refine Yf (Yj rfl rfl ?_)
  refine ⟨congrArg Value.bool ?_, g⟩
  rw [← nameP_eq]; rfl
theorem Jpa (k : Int) (w : World) : Ret PP Qlb #[.int .i64 k] w fun v w' => v = .bool (typK k) ∧ G w w' := by
  have g := G.refl w
  refine Ym (m := 9) Xwb rfl rfl [(0, True, _)] (Za rfl (Zd _)) ?_
  refine Zg fun K1 hK1 => ?_
  refine Zf [3] ?_
  refine Zc rfl (fun _ => Ze Zl) ?_
  refine Zh (hK1 _ _ ?_)
  refine Zg fun K2 hK2 => ?_
  refine Zf [3, 3, 3, 3, 3, 3, 3] ?_
  refine Zc rfl (fun _ => Zi (Zb rfl)) ?_
  refine Zc rfl (fun _ => Yg (Zb rfl) Zl) ?_
  refine Zc rfl (fun _ => Zi (Zb rfl)) ?_
  refine Zs rfl rfl rfl (fun _ => Zi (Zb rfl)) ?_
  refine Zs rfl rfl rfl (fun _ => Yg (Zy rfl id) Zl) ?_
  refine Zc rfl (fun _ => Yz (Zb rfl) (Zy rfl id)) ?_
  refine Zc rfl (fun _ => Ze (Zb rfl)) ?_
  refine Zj [(2, _, _)] (Za rfl (Zd _)) ?_
  refine Zh (hK2 _ _ ?_)
  refine Yf (Yj rfl rfl ?_)
  exact ⟨rfl, g⟩
theorem Uj (k : Int) (w : World) : Ret PP Jba #[.int .i64 k] w fun v w' => v = .bool (expK k) ∧ G w w' := by
  have g := G.refl w
  refine Ym (m := 20) Upa rfl rfl [(0, True, _)] (Za rfl (Zd _)) ?_
  refine Zg fun K1 hK1 => ?_
  refine Zf [3] ?_
  refine Zc rfl (fun _ => Ze Zl) ?_
  refine Zh (hK1 _ _ ?_)
  refine Zg fun K2 hK2 => ?_
  refine Zg fun K3 hK3 => ?_
  refine Zf [3] ?_
  refine Zc rfl (fun _ => Zi (Zb rfl)) ?_
  refine Zj [(2, _, _), (3, _, _)] (Za rfl (Za rfl (Zd _))) ?_
  refine Zh (hK3 _ _ ?_)
  refine Yp ?_
  refine Zg fun K4 hK4 => ?_
  refine Zg fun K5 hK5 => ?_
  refine Zf [3, 3] ?_
  refine Zc rfl (fun _ => Yg (Zb rfl) Zl) ?_
  refine Zc rfl (fun _ => Ze (Zb rfl)) ?_
  refine Zj [(2, _, _), (3, _, _), (4, _, _)] (Za rfl (Za rfl (Za rfl (Zd _)))) ?_
  refine Zh (hK5 _ _ ?_)
  refine' Yk [(2, _, _)] (Za rfl (Za rfl (Zd _))) rfl (fun hb1 => ?y1) (hK4 _ _ ?n1)
  case y1 =>
   refine Zg fun K6 hK6 => ?_
   refine Zf [3, 3] ?_
   refine Zc rfl (fun _ => Yg (Zb rfl) Zl) ?_
   refine Zc rfl (fun _ => Ze (Zb rfl)) ?_
   refine Zj [(2, _, _), (3, _, _), (4, _, _)] (Za rfl (Za rfl (Za rfl (Zd _)))) ?_
   refine Zh (hK6 _ _ ?_)
   refine' Yk [(2, _, _)] (Za rfl (Za rfl (Zd _))) rfl (fun hb2 => ?y2) (fun a ha => ⟨ha, rfl⟩)
   case y2 =>
    refine Zg fun K7 hK7 => ?_
    refine Zf [3, 3] ?_
    refine Zc rfl (fun _ => Yg (Zb rfl) Zl) ?_
    refine Zc rfl (fun _ => Ze (Zb rfl)) ?_
    refine Zj [(2, _, _), (3, _, _), (4, _, _)] (Za rfl (Za rfl (Za rfl (Zd _)))) ?_
    refine Zh (hK7 _ _ ?_)
    refine' Yk [(2, _, _)] (Za rfl (Za rfl (Zd _))) rfl (fun hb3 => ?y3) (fun a ha => ⟨ha, rfl⟩)
    case y3 =>
     refine Zg fun K8 hK8 => ?_
     refine Zf [3, 3] ?_
     refine Zc rfl (fun _ => Yg (Zb rfl) Zl) ?_
     refine Zc rfl (fun _ => Ze (Zb rfl)) ?_
     refine Zj [(2, _, _), (3, _, _), (4, _, _)] (Za rfl (Za rfl (Za rfl (Zd _)))) ?_
     refine Zh (hK8 _ _ ?_)
     refine' Yk [(2, _, _)] (Za rfl (Za rfl (Zd _))) rfl (fun hb4 => ?y4) (fun a ha => ⟨ha, rfl⟩)
     case y4 =>
      refine Zg fun K9 hK9 => ?_
      refine Zf [3, 3] ?_
      refine Zc rfl (fun _ => Yg (Zb rfl) Zl) ?_
      refine Zc rfl (fun _ => Ze (Zb rfl)) ?_
      refine Zj [(2, _, _), (3, _, _), (4, _, _)] (Za rfl (Za rfl (Za rfl (Zd _)))) ?_
      refine Zh (hK9 _ _ ?_)
      refine' Yk [(2, _, _)] (Za rfl (Za rfl (Zd _))) rfl (fun hb5 => ?y5) (fun a ha => ⟨ha, rfl⟩)
      case y5 =>
       refine Zg fun K10 hK10 => ?_
       refine Zf [3, 3] ?_
       refine Zc rfl (fun _ => Yg (Zb rfl) Zl) ?_
       refine Zc rfl (fun _ => Ze (Zb rfl)) ?_
       refine Zj [(2, _, _), (3, _, _), (4, _, _)] (Za rfl (Za rfl (Za rfl (Zd _)))) ?_
       refine Zh (hK10 _ _ ?_)
       refine' Yk [(2, _, _)] (Za rfl (Za rfl (Zd _))) rfl (fun hb6 => ?y6) (fun a ha => ⟨ha, rfl⟩)
       case y6 =>
        refine Zg fun K11 hK11 => ?_
        refine Zf [3, 3] ?_
        refine Zc rfl (fun _ => Yg (Zb rfl) Zl) ?_
        refine Zc rfl (fun _ => Ze (Zb rfl)) ?_
        refine Zj [(2, _, _), (3, _, _), (4, _, _)] (Za rfl (Za rfl (Za rfl (Zd _)))) ?_
        refine Zh (hK11 _ _ ?_)
        refine' Yk [(2, _, _)] (Za rfl (Za rfl (Zd _))) rfl (fun hb7 => ?y7) (fun a ha => ⟨ha, rfl⟩)
        case y7 =>
         refine Zg fun K12 hK12 => ?_
         refine Zf [3, 3] ?_
         refine Zc rfl (fun _ => Yg (Zb rfl) Zl) ?_
         refine Zc rfl (fun _ => Ze (Zb rfl)) ?_
         refine Zj [(2, _, _), (3, _, _), (4, _, _)] (Za rfl (Za rfl (Za rfl (Zd _)))) ?_
         refine Zh (hK12 _ _ ?_)
         refine' Yk [(2, _, _)] (Za rfl (Za rfl (Zd _))) rfl (fun hb8 => ?y8) (fun a ha => ⟨ha, rfl⟩)
         case y8 =>
          refine Zg fun K13 hK13 => ?_
          refine Zf [3, 3] ?_
          refine Zc rfl (fun _ => Yg (Zb rfl) Zl) ?_
          refine Zc rfl (fun _ => Ze (Zb rfl)) ?_
          refine Zj [(2, _, _), (3, _, _), (4, _, _)] (Za rfl (Za rfl (Za rfl (Zd _)))) ?_
          refine Zh (hK13 _ _ ?_)
          refine' Yk [(2, _, _)] (Za rfl (Za rfl (Zd _))) rfl (fun hb9 => ?y9) (fun a ha => ⟨ha, rfl⟩)
          case y9 =>
           refine Zg fun K14 hK14 => ?_
           refine Zf [3, 3] ?_
           refine Zc rfl (fun _ => Yg (Zb rfl) Zl) ?_
           refine Zc rfl (fun _ => Ze (Zb rfl)) ?_
           refine Zj [(2, _, _), (3, _, _), (4, _, _)] (Za rfl (Za rfl (Za rfl (Zd _)))) ?_
           refine Zh (hK14 _ _ ?_)
           refine' Yk [(2, _, _)] (Za rfl (Za rfl (Zd _))) rfl (fun hb10 => ?y10) (fun a ha => ⟨ha, rfl⟩)
           case y10 =>
            refine Zg fun K15 hK15 => ?_
            refine Zf [3, 3] ?_
            refine Zc rfl (fun _ => Yg (Zb rfl) Zl) ?_
            refine Zc rfl (fun _ => Ze (Zb rfl)) ?_
            refine Zj [(2, _, _), (3, _, _), (4, _, _)] (Za rfl (Za rfl (Za rfl (Zd _)))) ?_
            refine Zh (hK15 _ _ ?_)
            refine' Yk [(2, _, _)] (Za rfl (Za rfl (Zd _))) rfl (fun hb11 => ?y11) (fun a ha => ⟨ha, rfl⟩)
            case y11 =>
             refine Zg fun K16 hK16 => ?_
             refine Zf [3, 3] ?_
             refine Zc rfl (fun _ => Yg (Zb rfl) Zl) ?_
             refine Zc rfl (fun _ => Ze (Zb rfl)) ?_
             refine Zj [(2, _, _), (3, _, _), (4, _, _)] (Za rfl (Za rfl (Za rfl (Zd _)))) ?_
             refine Zh (hK16 _ _ ?_)
             refine' Yk [(2, _, _)] (Za rfl (Za rfl (Zd _))) rfl (fun hb12 => ?y12) (fun a ha => ⟨ha, rfl⟩)
             case y12 =>
              refine Zg fun K17 hK17 => ?_
              refine Zf [3, 3] ?_
              refine Zc rfl (fun _ => Yg (Zb rfl) Zl) ?_
              refine Zc rfl (fun _ => Ze (Zb rfl)) ?_
              refine Zj [(2, _, _), (3, _, _), (4, _, _)] (Za rfl (Za rfl (Za rfl (Zd _)))) ?_
              refine Zh (hK17 _ _ ?_)
              refine' Yk [(2, _, _)] (Za rfl (Za rfl (Zd _))) rfl (fun hb13 => ?y13) (fun a ha => ⟨ha, rfl⟩)
              case y13 =>
               refine Zg fun K18 hK18 => ?_
               refine Zf [3, 3] ?_
               refine Zc rfl (fun _ => Yg (Zb rfl) Zl) ?_
               refine Zc rfl (fun _ => Ze (Zb rfl)) ?_
               refine Zj [(2, _, _), (3, _, _), (4, _, _)] (Za rfl (Za rfl (Za rfl (Zd _)))) ?_
               refine Zh (hK18 _ _ ?_)
               refine' Yk [(2, _, _)] (Za rfl (Za rfl (Zd _))) rfl (fun hb14 => ?y14) (fun a ha => ⟨ha, rfl⟩)
               case y14 =>
                refine Zf [3, 3] ?_
                refine Zc rfl (fun _ => Yg (Zb rfl) Zl) ?_
                refine Zc rfl (fun _ => Ze (Zb rfl)) ?_
                refine Zj [(4, _, _), (2, _, _)] (Za rfl (Za rfl (Zd _))) ?_
                exact Zh (fun a ha => ⟨ha, rfl⟩)
  case n1 =>
   refine Zz (Zb rfl) (fun h15 => ?_) (fun h15 => ?_)
   · (try simp only [bsimp] at h15)
     refine Zg fun K19 hK19 => ?_
     refine Zf [3] ?_
     refine Zc rfl (fun _ => Ze Zl) ?_
     refine Zj [(2, _, _)] (Za rfl (Zd _)) ?_
     refine Zh (hK19 _ _ ?_)
     refine Yf (Yj rfl rfl ?_)
     refine ⟨congrArg Value.bool ?_, g⟩
     simp only [expK, anyK]; exact (h15).symm
   (try simp only [bsimp] at h15)
   refine Yq (hK2 _ _ ?_)
   refine Yi [(2, _, _)] (Za rfl (Zd _)) ?_
   refine Zg fun K20 hK20 => ?_
   refine Zf [3] ?_
   refine Zc rfl (fun _ => Ze Zl) ?_
   refine Zh (hK20 _ _ ?_)
   refine Yf (Yj rfl rfl ?_)
   refine ⟨congrArg Value.bool ?_, g⟩
   simp only [expK, anyK]; exact (h15).symm
theorem statement_ok (k : Int) (w : World) : Ret PP Zpb #[.int .i64 k] w fun v w' => v = .bool (stK k) ∧ G w w' := by
  have g := G.refl w
  refine Ym (m := 19) Qfa rfl rfl [(0, True, _)] (Za rfl (Zd _)) ?_
  refine Zg fun K1 hK1 => ?_
  refine Zf [3] ?_
  refine Zc rfl (fun _ => Ze Zl) ?_
  refine Zh (hK1 _ _ ?_)
  refine Zg fun K2 hK2 => ?_
  refine Zg fun K3 hK3 => ?_
  refine Zf [3] ?_
  refine Zc rfl (fun _ => Zi (Zb rfl)) ?_
  refine Zj [(2, _, _), (3, _, _)] (Za rfl (Za rfl (Zd _))) ?_
  refine Zh (hK3 _ _ ?_)
  refine Yp ?_
  refine Zg fun K4 hK4 => ?_
  refine Zg fun K5 hK5 => ?_
  refine Zf [3, 3] ?_
  refine Zc rfl (fun _ => Yg (Zb rfl) Zl) ?_
  refine Zc rfl (fun _ => Ze (Zb rfl)) ?_
  refine Zj [(2, _, _), (3, _, _), (4, _, _)] (Za rfl (Za rfl (Za rfl (Zd _)))) ?_
  refine Zh (hK5 _ _ ?_)
  refine' Yk [(2, _, _)] (Za rfl (Za rfl (Zd _))) rfl (fun hb1 => ?y1) (hK4 _ _ ?n1)
  case y1 =>
   refine Zg fun K6 hK6 => ?_
   refine Zf [3, 3] ?_
   refine Zc rfl (fun _ => Yg (Zb rfl) Zl) ?_
   refine Zc rfl (fun _ => Ze (Zb rfl)) ?_
   refine Zj [(2, _, _), (3, _, _), (4, _, _)] (Za rfl (Za rfl (Za rfl (Zd _)))) ?_
   refine Zh (hK6 _ _ ?_)
   refine' Yk [(2, _, _)] (Za rfl (Za rfl (Zd _))) rfl (fun hb2 => ?y2) (fun a ha => ⟨ha, rfl⟩)
   case y2 =>
    refine Zg fun K7 hK7 => ?_
    refine Zf [3, 3] ?_
    refine Zc rfl (fun _ => Yg (Zb rfl) Zl) ?_
    refine Zc rfl (fun _ => Ze (Zb rfl)) ?_
    refine Zj [(2, _, _), (3, _, _), (4, _, _)] (Za rfl (Za rfl (Za rfl (Zd _)))) ?_
    refine Zh (hK7 _ _ ?_)
    refine' Yk [(2, _, _)] (Za rfl (Za rfl (Zd _))) rfl (fun hb3 => ?y3) (fun a ha => ⟨ha, rfl⟩)
    case y3 =>
     refine Zg fun K8 hK8 => ?_
     refine Zf [3, 3] ?_
     refine Zc rfl (fun _ => Yg (Zb rfl) Zl) ?_
     refine Zc rfl (fun _ => Ze (Zb rfl)) ?_
     refine Zj [(2, _, _), (3, _, _), (4, _, _)] (Za rfl (Za rfl (Za rfl (Zd _)))) ?_
     refine Zh (hK8 _ _ ?_)
     refine' Yk [(2, _, _)] (Za rfl (Za rfl (Zd _))) rfl (fun hb4 => ?y4) (fun a ha => ⟨ha, rfl⟩)
     case y4 =>
      refine Zg fun K9 hK9 => ?_
      refine Zf [3, 3] ?_
      refine Zc rfl (fun _ => Yg (Zb rfl) Zl) ?_
      refine Zc rfl (fun _ => Ze (Zb rfl)) ?_
      refine Zj [(2, _, _), (3, _, _), (4, _, _)] (Za rfl (Za rfl (Za rfl (Zd _)))) ?_
      refine Zh (hK9 _ _ ?_)
      refine' Yk [(2, _, _)] (Za rfl (Za rfl (Zd _))) rfl (fun hb5 => ?y5) (fun a ha => ⟨ha, rfl⟩)
      case y5 =>
       refine Zg fun K10 hK10 => ?_
       refine Zf [3, 3] ?_
       refine Zc rfl (fun _ => Yg (Zb rfl) Zl) ?_
       refine Zc rfl (fun _ => Ze (Zb rfl)) ?_
       refine Zj [(2, _, _), (3, _, _), (4, _, _)] (Za rfl (Za rfl (Za rfl (Zd _)))) ?_
       refine Zh (hK10 _ _ ?_)
       refine' Yk [(2, _, _)] (Za rfl (Za rfl (Zd _))) rfl (fun hb6 => ?y6) (fun a ha => ⟨ha, rfl⟩)
       case y6 =>
        refine Zg fun K11 hK11 => ?_
        refine Zf [3, 3] ?_
        refine Zc rfl (fun _ => Yg (Zb rfl) Zl) ?_
        refine Zc rfl (fun _ => Ze (Zb rfl)) ?_
        refine Zj [(2, _, _), (3, _, _), (4, _, _)] (Za rfl (Za rfl (Za rfl (Zd _)))) ?_
        refine Zh (hK11 _ _ ?_)
        refine' Yk [(2, _, _)] (Za rfl (Za rfl (Zd _))) rfl (fun hb7 => ?y7) (fun a ha => ⟨ha, rfl⟩)
        case y7 =>
         refine Zg fun K12 hK12 => ?_
         refine Zf [3, 3] ?_
         refine Zc rfl (fun _ => Yg (Zb rfl) Zl) ?_
         refine Zc rfl (fun _ => Ze (Zb rfl)) ?_
         refine Zj [(2, _, _), (3, _, _), (4, _, _)] (Za rfl (Za rfl (Za rfl (Zd _)))) ?_
         refine Zh (hK12 _ _ ?_)
         refine' Yk [(2, _, _)] (Za rfl (Za rfl (Zd _))) rfl (fun hb8 => ?y8) (fun a ha => ⟨ha, rfl⟩)
         case y8 =>
          refine Zg fun K13 hK13 => ?_
          refine Zf [3, 3] ?_
          refine Zc rfl (fun _ => Yg (Zb rfl) Zl) ?_
          refine Zc rfl (fun _ => Ze (Zb rfl)) ?_
          refine Zj [(2, _, _), (3, _, _), (4, _, _)] (Za rfl (Za rfl (Za rfl (Zd _)))) ?_
          refine Zh (hK13 _ _ ?_)
          refine' Yk [(2, _, _)] (Za rfl (Za rfl (Zd _))) rfl (fun hb9 => ?y9) (fun a ha => ⟨ha, rfl⟩)
          case y9 =>
           refine Zg fun K14 hK14 => ?_
           refine Zf [3, 3] ?_
           refine Zc rfl (fun _ => Yg (Zb rfl) Zl) ?_
           refine Zc rfl (fun _ => Ze (Zb rfl)) ?_
           refine Zj [(2, _, _), (3, _, _), (4, _, _)] (Za rfl (Za rfl (Za rfl (Zd _)))) ?_
           refine Zh (hK14 _ _ ?_)
           refine' Yk [(2, _, _)] (Za rfl (Za rfl (Zd _))) rfl (fun hb10 => ?y10) (fun a ha => ⟨ha, rfl⟩)
           case y10 =>
            refine Zg fun K15 hK15 => ?_
            refine Zf [3, 3] ?_
            refine Zc rfl (fun _ => Yg (Zb rfl) Zl) ?_
            refine Zc rfl (fun _ => Ze (Zb rfl)) ?_
            refine Zj [(2, _, _), (3, _, _), (4, _, _)] (Za rfl (Za rfl (Za rfl (Zd _)))) ?_
            refine Zh (hK15 _ _ ?_)
            refine' Yk [(2, _, _)] (Za rfl (Za rfl (Zd _))) rfl (fun hb11 => ?y11) (fun a ha => ⟨ha, rfl⟩)
            case y11 =>
             refine Zg fun K16 hK16 => ?_
             refine Zf [3, 3] ?_
             refine Zc rfl (fun _ => Yg (Zb rfl) Zl) ?_
             refine Zc rfl (fun _ => Ze (Zb rfl)) ?_
             refine Zj [(2, _, _), (3, _, _), (4, _, _)] (Za rfl (Za rfl (Za rfl (Zd _)))) ?_
             refine Zh (hK16 _ _ ?_)
             refine' Yk [(2, _, _)] (Za rfl (Za rfl (Zd _))) rfl (fun hb12 => ?y12) (fun a ha => ⟨ha, rfl⟩)
             case y12 =>
              refine Zg fun K17 hK17 => ?_
              refine Zf [3, 3] ?_
              refine Zc rfl (fun _ => Yg (Zb rfl) Zl) ?_
              refine Zc rfl (fun _ => Ze (Zb rfl)) ?_
              refine Zj [(2, _, _), (3, _, _), (4, _, _)] (Za rfl (Za rfl (Za rfl (Zd _)))) ?_
              refine Zh (hK17 _ _ ?_)
              refine' Yk [(2, _, _)] (Za rfl (Za rfl (Zd _))) rfl (fun hb13 => ?y13) (fun a ha => ⟨ha, rfl⟩)
              case y13 =>
               refine Zf [3, 3] ?_
               refine Zc rfl (fun _ => Yg (Zb rfl) Zl) ?_
               refine Zc rfl (fun _ => Ze (Zb rfl)) ?_
               refine Zj [(4, _, _), (2, _, _)] (Za rfl (Za rfl (Zd _))) ?_
               exact Zh (fun a ha => ⟨ha, rfl⟩)
  case n1 =>
   refine Zz (Zb rfl) (fun h14 => ?_) (fun h14 => ?_)
   · (try simp only [bsimp] at h14)
     refine Zg fun K18 hK18 => ?_
     refine Zf [3] ?_
     refine Zc rfl (fun _ => Ze Zl) ?_
     refine Zj [(2, _, _)] (Za rfl (Zd _)) ?_
     refine Zh (hK18 _ _ ?_)
     refine Yf (Yj rfl rfl ?_)
     refine ⟨congrArg Value.bool ?_, g⟩
     simp only [stK, anyK]; exact (h14).symm
   (try simp only [bsimp] at h14)
   refine Yq (hK2 _ _ ?_)
   refine Yi [(2, _, _)] (Za rfl (Zd _)) ?_
   refine Zg fun K19 hK19 => ?_
   refine Zf [3] ?_
   refine Zc rfl (fun _ => Ze Zl) ?_
   refine Zh (hK19 _ _ ?_)
   refine Yf (Yj rfl rfl ?_)
   refine ⟨congrArg Value.bool ?_, g⟩
   simp only [stK, anyK]; exact (h14).symm
theorem among1_ok (l : List Int) (b : Nat) (p : Option Addr) (c : Nat) (k : Int) (w : World) (hB : Blk w b ty_sl_int [.slice p l.length c]) (hp : 0 < l.length → ∃ b o, p = some ⟨b, o, none⟩ ∧ RowAt w b o (l.map (Value.int .i64))) (hl : l.length ≤ 1000) :
    Ret PP Xyb #[.int .i64 k, .pointer (some ⟨b, 0, none⟩)] w fun v w' => v = .bool (memK l k) ∧ G w w' := by
  have g := G.refl w
  refine Ym (m := 16) Zrb rfl rfl [(0, True, _), (1, True, _)] (Za rfl (Za rfl (Zd _))) ?_
  refine Zg fun K1 hK1 => ?_
  refine Zf [3] ?_
  refine Zc rfl (fun _ => Ze Zl) ?_
  refine Zh (hK1 _ _ ?_)
  refine Zg fun K2 hK2 => ?_
  refine Zg fun K3 hK3 => ?_
  refine Zf [0, 3, 3] ?_
  refine Ya rfl (Zt one_sl_int (Zb rfl) (fun _ => (hB.grow g).at_ rfl)) ?_
  refine Zc rfl (fun _ => Xx Wt (Zb rfl)) ?_
  refine Zc rfl (fun _ => Zi Zl) ?_
  refine Zj [(0, _, _), (3, _, _), (6, _, _), (7, _, _), (8, _, _)] (Za rfl (Za rfl (Za rfl (Za rfl (Za rfl (Zd _)))))) ?_
  refine Zh (hK3 _ _ ?_)
  refine Yp ?_
  refine Wv (fun (i : Nat) u1 => (i ≤ l.length ∧ ∀ j, (h : j < l.length) → j < i → l[j] ≠ k) ∧ G w u1) [(0, True, _), (6, True, _), (7, True, _)] (fun (i : Nat) => [(8, True, .int .i64 i)]) (fun (i : Nat) => l.length - i) (0) ⟨⟨Nat.zero_le _, fun j _ hj => absurd hj (Nat.not_lt_zero j)⟩, G.refl _⟩ (Za rfl (Za rfl (Za rfl (Za rfl (Zd _))))) ?_
  rintro i u1 ⟨hI1, gl1⟩
  have g := g.trans gl1
  refine Zg fun K4 hK4 => ?_
  refine Zf [3] ?_
  refine Zc rfl (fun _ => Vh (Zb rfl) (Zb rfl)) ?_
  refine Zh (hK4 _ _ ?_)
  refine Yi [(0, _, _), (6, _, _), (7, _, _), (8, _, _), (9, _, _)] (Za rfl (Za rfl (Za rfl (Za rfl (Za rfl (Zd _)))))) ?_
  refine Zg fun K5 hK5 => ?_
  refine Zz (Zb rfl) (fun h1 => ?_) (fun h1 => ?_)
  · replace h1 : i < l.length := by simp only [decide_eq_true_eq] at h1; omega
    obtain ⟨b2, o2, rfl, hR⟩ := hp (by omega)
    have hv : (l.map (Value.int .i64))[i * 1]? = some (.int .i64 l[i]) := by simp [h1]
    refine Yq (hK5 _ _ ?_)
    refine Yi [(0, _, _), (6, _, _), (7, _, _), (8, _, _)] (Za rfl (Za rfl (Za rfl (Za rfl (Zd _))))) ?_
    refine Zg fun K6 hK6 => ?_
    refine Yp ?_
    refine Zg fun K7 hK7 => ?_
    refine Zf [3, 0, 3] ?_
    refine Zc rfl (fun _ => Uc Wt (Zb rfl) (Zb rfl) (fun _ => by omega)) ?_
    refine Ya rfl (Zt Yy (Zb rfl) (fun _ => (hR.grow g) _ _ hv)) ?_
    refine Zc rfl (fun _ => Ze (Zb rfl)) ?_
    refine Zj [(0, _, _), (5, _, _), (6, _, _), (7, _, _), (8, _, _)] (Za rfl (Za rfl (Za rfl (Za rfl (Za rfl (Zd _)))))) ?_
    refine Zh (hK7 _ _ ?_)
    refine Zg fun K8 hK8 => ?_
    refine Zf [3, 3, 3] ?_
    refine Zc rfl (fun _ => Zi (Zb rfl)) ?_
    refine Zc rfl (fun _ => Zi (Zb rfl)) ?_
    refine Zc rfl (fun _ => Yg (Zb rfl) (Zb rfl)) ?_
    refine Zj [(0, _, _), (6, _, _), (7, _, _), (8, _, _), (14, _, _)] (Za rfl (Za rfl (Za rfl (Za rfl (Za rfl (Zd _)))))) ?_
    refine Zh (hK8 _ _ ?_)
    refine Zz (Zb rfl) (fun h2 => ?_) (fun h2 => ?_)
    · simp only [decide_eq_true_eq] at h2
      refine Zg fun K9 hK9 => ?_
      refine Zf [3] ?_
      refine Zc rfl (fun _ => Ze Zl) ?_
      refine Zj [(0, _, _), (3, _, _), (6, _, _), (7, _, _), (8, _, _)] (Za rfl (Za rfl (Za rfl (Za rfl (Za rfl (Zd _)))))) ?_
      refine Zh (hK9 _ _ ?_)
      refine Yf (Yj rfl rfl ?_)
      refine ⟨congrArg Value.bool ?_, g⟩
      rw [memK, eq_comm, decide_eq_true_eq, ← h2]; exact List.getElem_mem h1
    simp only [decide_eq_false_iff_not] at h2
    refine Yq (hK6 _ _ ?_)
    refine Yi [(0, _, _), (6, _, _), (7, _, _), (8, _, _)] (Za rfl (Za rfl (Za rfl (Za rfl (Zd _))))) ?_
    refine Zf [3, 3] ?_
    refine Zc rfl (fun _ => Xq (Zb rfl) Zl (fun _ => by omega)) ?_
    refine Zc rfl (fun _ => Zi (Zb rfl)) ?_
    refine Zj [(8, _, _), (0, _, _), (6, _, _), (7, _, _)] (Za rfl (Za rfl (Za rfl (Za rfl (Zd _))))) ?_
    refine Zh (fun a ha => ?_)
    refine ⟨i + 1, ha, ⟨⟨h1, fun j h hj => ?_⟩, gl1⟩, by omega⟩
    by_cases e : j = i
    · subst e; exact h2
    · exact hI1.2 j h (by omega)
  (try simp only [bsimp] at h1)
  refine Wa rfl (hK2 _ _ ?_)
  refine Yi [] (Zd _) ?_
  refine Zg fun K10 hK10 => ?_
  refine Zf [3] ?_
  refine Zc rfl (fun _ => Ze Zl) ?_
  refine Zh (hK10 _ _ ?_)
  refine Yf (Yj rfl rfl ?_)
  refine ⟨congrArg Value.bool ?_, g⟩
  rw [memK, eq_comm, decide_eq_false_iff_not]
  intro hm
  obtain ⟨j, hj, e⟩ := List.getElem_of_mem hm
  simp only [decide_eq_false_iff_not] at h1
  exact hI1.2 j hj (by omega) e
theorem Qx (l : List Int) (b o c : Nat) (w : World) (hR : RowAt w b o (l.map (Value.int .i64))) (hl : l.length ≤ 1000) : Ret PP Qjb #[.slice (some ⟨b, o, none⟩) l.length c] w fun v w' => FnV PP (memK l) v w' ∧ G w w' := by
  have g := G.refl w
  refine Ym (m := 4) Xub rfl rfl [(0, True, _)] (Za rfl (Zd _)) ?_
  refine Zg fun K1 hK1 => ?_
  refine Zf [1, 3] ?_
  refine Wd rfl (Zb rfl) rfl ?_
  intro b1 w1 N1
  have l1 := N1.ge g
  have g := g.trans (N1.g)
  have B1 := N1.blk
  refine Zc rfl (fun _ => Ze Zl) ?_
  refine Zj [(1, _, _), (2, _, _)] (Za rfl (Za rfl (Zd _))) ?_
  refine Zh (hK1 _ _ ?_)
  refine Zg fun K2 hK2 => ?_
  refine Zf [3, 3] ?_
  refine Zc rfl (fun _ => Qzb (Zn) (Zk (Zb rfl) (Zn))) ?_
  refine Zc rfl (fun _ => Ze (Zb rfl)) ?_
  refine Zj [(2, _, _)] (Za rfl (Zd _)) ?_
  refine Zh (hK2 _ _ ?_)
  refine Yf (Yj rfl rfl ?_)
  refine ⟨⟨_, _, _, rfl, Xzb, fun k w' g' => ?_⟩, g⟩
  exact among1_ok l _ _ _ k w' (B1.grow g') (fun _ => ⟨b, o, rfl, (hR.grow g).grow g'⟩) hl
theorem either1_ok (q r : Int → Bool) (f h : Value) (b1 b2 : Nat) (k : Int) (w : World) (h1 : Blk w b1 Vva [f]) (h2 : Blk w b2 Vva [h]) (hF : FnV PP q f w) (hH : FnV PP r h w) :
    Ret PP Yob #[.int .i64 k, .pointer (some ⟨b1, 0, none⟩), .pointer (some ⟨b2, 0, none⟩)] w fun v w' => v = .bool (q k || r k) ∧ G w w' := by
  have g := G.refl w
  obtain ⟨f0, fs0, cs0, rfl, hgo0, hf0⟩ := hF
  obtain ⟨f1, fs1, cs1, rfl, hgo1, hf1⟩ := hH
  refine Ym (m := 13) Jda rfl rfl [(0, True, _), (1, True, _), (2, True, _)] (Za rfl (Za rfl (Za rfl (Zd _)))) ?_
  refine Zg fun K1 hK1 => ?_
  refine Zf [3] ?_
  refine Zc rfl (fun _ => Ze Zl) ?_
  refine Zh (hK1 _ _ ?_)
  refine Zg fun K2 hK2 => ?_
  refine Zf [0, 3, 1, 3, 0, 3, 1, 3, 3] ?_
  refine Ya rfl (Zt Zha (Zb rfl) (fun _ => (h1.grow g).at_ rfl)) ?_
  refine Zc rfl (fun _ => Zi (Zb rfl)) ?_
  refine Xe rfl (Zu hgo0 (Zb rfl) (Zk (Zb rfl) (Zn)) rfl) (hf0 k _ g) (fun w7 g7 => ?_)
  have g := g.trans (g7)
  refine Zc rfl (fun _ => Zi (Zb rfl)) ?_
  refine Yr rfl rfl rfl (Zt Zha (Zb rfl) (fun _ => (h2.grow g).at_ rfl)) ?_
  refine Zs rfl rfl rfl (fun _ => Zi (Zb rfl)) ?_
  refine Xb rfl rfl rfl (fun _ => (Zu hgo1 (Zy rfl id) (Zk (Zy rfl id) (Zn)) rfl)) (fun hc => hf1 k _ g) (fun w11 g11 => ?_)
  have g := g.trans (g11)
  refine Zc rfl (fun _ => Yz (Zb rfl) (Zy rfl id)) ?_
  refine Zc rfl (fun _ => Ze (Zb rfl)) ?_
  refine Zj [(4, _, _)] (Za rfl (Zd _)) ?_
  refine Zh (hK2 _ _ ?_)
  refine Yf (Yj rfl rfl ?_)
  exact ⟨rfl, g⟩
theorem Uaa (q : Int → Bool) (l : List Int) (f : Value) (b o c : Nat) (w : World) (hF : FnV PP q f w) (hR : RowAt w b o (l.map (Value.int .i64))) (hl : l.length ≤ 1000) : Ret PP Vcb #[f, .slice (some ⟨b, o, none⟩) l.length c] w fun v w' => FnV PP (fun k => q k || memK l k) v w' ∧ G w w' := by
  have g := G.refl w
  have hF0 := hF
  obtain ⟨f0, fs0, cs0, rfl, hgo0, hf0⟩ := hF
  refine Ym (m := 9) Ynb rfl rfl [(0, True, _), (1, True, _)] (Za rfl (Za rfl (Zd _))) ?_
  refine Zg fun K1 hK1 => ?_
  refine Zf [1, 3] ?_
  refine Wd rfl (Zb rfl) rfl ?_
  intro b2 w2 N2
  have l2 := N2.ge g
  have g := g.trans (N2.g)
  have B2 := N2.blk
  refine Zc rfl (fun _ => Ze Zl) ?_
  refine Zj [(1, _, _), (2, _, _), (4, _, _)] (Za rfl (Za rfl (Za rfl (Zd _)))) ?_
  refine Zh (hK1 _ _ ?_)
  refine Zg fun K2 hK2 => ?_
  refine Zf [3, 1, 1, 2] ?_
  refine Zc rfl (fun _ => Zi (Zb rfl)) ?_
  refine Yd rfl (Zu Wj Yl (Zk (Zb rfl) (Zn)) rfl) (Qx l _ _ _ _ (hR.grow g) hl) ?_
  rintro v7 w7 ⟨hA, g7⟩
  refine ⟨fun _ => g7, ?_⟩
  have g := g.trans g7
  have hA0 := hA
  obtain ⟨f1, fs1, cs1, rfl, hgo1, hf1⟩ := hA
  replace B2 := B2.grow (g7)
  have gm := G.refl w7
  refine Xr rfl Xy rfl ?_
  intro b5 w5 N5
  have x5_2 := N5.ne B2
  have l5 := N5.ge g
  try have l5_gm := N5.ge gm
  have g := g.trans (N5.g)
  try have gm := gm.trans (N5.g)
  replace B2 := B2.grow (N5.g)
  have B5 := N5.blk
  refine Yu rfl Vgb (Zb rfl) (Zb rfl) rfl rfl B5 rfl rfl ?_
  intro wS1 hgS1 hzS1
  clear B5
  intro B5
  replace B2 := B2.keep hgS1 (by intro h; injection h with h; first | exact x5_2 h.symm | exact x2_5 h | omega)
  have g := Xo g hgS1 (by intro k hk; injection hk with hk; omega)
  first | replace gm := Xo gm hgS1 (by intro k hk; injection hk with hk; omega) | clear gm | skip
  refine Zj [(2, _, _), (4, _, _), (5, _, _)] (Za rfl (Za rfl (Za rfl (Zd _)))) ?_
  refine Zh (hK2 _ _ ?_)
  refine Zg fun K3 hK3 => ?_
  refine Zf [3, 3] ?_
  refine Zc rfl (fun _ => Qzb (Zn) (Zk (Zb rfl) (Zk (Zb rfl) (Zn)))) ?_
  refine Zc rfl (fun _ => Ze (Zb rfl)) ?_
  refine Zj [(4, _, _)] (Za rfl (Zd _)) ?_
  refine Zh (hK3 _ _ ?_)
  refine Yf (Yj rfl rfl ?_)
  refine ⟨⟨_, _, _, rfl, Ypb, fun k w' g' => ?_⟩, g⟩
  exact either1_ok q (memK l) _ _ _ _ k w' (B2.grow g') (B5.grow g') ((hF0.grow g).grow g') ((hA0.grow gm).grow g')
end Go.Rk
namespace Go.Rk
open Go Go.RowKit
def Ul : List (List UInt8) := [[105, 110, 116], [98, 111, 111, 108], [91, 93, 105, 110, 116], [99, 104, 97, 110], [102, 117, 110, 99], [109, 117, 116, 101, 120], [114, 119, 109, 117, 116, 101, 120], [103, 114, 111, 117, 112], [111, 110, 99, 101], [97, 116, 111, 109, 105, 99]]
def typeNameB (s : List UInt8) : Bool := anyS Ul s
theorem typename_ok (s : List UInt8) (w : World) : Ret PP Qeb #[Str s] w fun v w' => v = .bool (typeNameB s) ∧ G w w' := by
  have g := G.refl w
  refine Ym (m := 15) Xsb rfl rfl [(0, True, _)] (Za rfl (Zd _)) ?_
  refine Zg fun K1 hK1 => ?_
  refine Zf [3] ?_
  refine Zc rfl (fun _ => Ze Zl) ?_
  refine Zh (hK1 _ _ ?_)
  refine Zg fun K2 hK2 => ?_
  refine Zg fun K3 hK3 => ?_
  refine Zf [3] ?_
  refine Zc rfl (fun _ => Zi (Zb rfl)) ?_
  refine Zj [(2, _, _), (3, _, _)] (Za rfl (Za rfl (Zd _))) ?_
  refine Zh (hK3 _ _ ?_)
  refine Yp ?_
  refine Zg fun K4 hK4 => ?_
  refine Zg fun K5 hK5 => ?_
  refine Zf [3, 3] ?_
  refine Zc rfl (fun _ => Yh (Zb rfl) Zl) ?_
  refine Zc rfl (fun _ => Ze (Zb rfl)) ?_
  refine Zj [(2, _, _), (3, _, _), (4, _, _)] (Za rfl (Za rfl (Za rfl (Zd _)))) ?_
  refine Zh (hK5 _ _ ?_)
  refine' Yk [(2, _, _)] (Za rfl (Za rfl (Zd _))) rfl (fun hb1 => ?y1) (hK4 _ _ ?n1)
  case y1 =>
   refine Zg fun K6 hK6 => ?_
   refine Zf [3, 3] ?_
   refine Zc rfl (fun _ => Yh (Zb rfl) Zl) ?_
   refine Zc rfl (fun _ => Ze (Zb rfl)) ?_
   refine Zj [(2, _, _), (3, _, _), (4, _, _)] (Za rfl (Za rfl (Za rfl (Zd _)))) ?_
   refine Zh (hK6 _ _ ?_)
   refine' Yk [(2, _, _)] (Za rfl (Za rfl (Zd _))) rfl (fun hb2 => ?y2) (fun a ha => ⟨ha, rfl⟩)
   case y2 =>
    refine Zg fun K7 hK7 => ?_
    refine Zf [3, 3] ?_
    refine Zc rfl (fun _ => Yh (Zb rfl) Zl) ?_
    refine Zc rfl (fun _ => Ze (Zb rfl)) ?_
    refine Zj [(2, _, _), (3, _, _), (4, _, _)] (Za rfl (Za rfl (Za rfl (Zd _)))) ?_
    refine Zh (hK7 _ _ ?_)
    refine' Yk [(2, _, _)] (Za rfl (Za rfl (Zd _))) rfl (fun hb3 => ?y3) (fun a ha => ⟨ha, rfl⟩)
    case y3 =>
     refine Zg fun K8 hK8 => ?_
     refine Zf [3, 3] ?_
     refine Zc rfl (fun _ => Yh (Zb rfl) Zl) ?_
     refine Zc rfl (fun _ => Ze (Zb rfl)) ?_
     refine Zj [(2, _, _), (3, _, _), (4, _, _)] (Za rfl (Za rfl (Za rfl (Zd _)))) ?_
     refine Zh (hK8 _ _ ?_)
     refine' Yk [(2, _, _)] (Za rfl (Za rfl (Zd _))) rfl (fun hb4 => ?y4) (fun a ha => ⟨ha, rfl⟩)
     case y4 =>
      refine Zg fun K9 hK9 => ?_
      refine Zf [3, 3] ?_
      refine Zc rfl (fun _ => Yh (Zb rfl) Zl) ?_
      refine Zc rfl (fun _ => Ze (Zb rfl)) ?_
      refine Zj [(2, _, _), (3, _, _), (4, _, _)] (Za rfl (Za rfl (Za rfl (Zd _)))) ?_
      refine Zh (hK9 _ _ ?_)
      refine' Yk [(2, _, _)] (Za rfl (Za rfl (Zd _))) rfl (fun hb5 => ?y5) (fun a ha => ⟨ha, rfl⟩)
      case y5 =>
       refine Zg fun K10 hK10 => ?_
       refine Zf [3, 3] ?_
       refine Zc rfl (fun _ => Yh (Zb rfl) Zl) ?_
       refine Zc rfl (fun _ => Ze (Zb rfl)) ?_
       refine Zj [(2, _, _), (3, _, _), (4, _, _)] (Za rfl (Za rfl (Za rfl (Zd _)))) ?_
       refine Zh (hK10 _ _ ?_)
       refine' Yk [(2, _, _)] (Za rfl (Za rfl (Zd _))) rfl (fun hb6 => ?y6) (fun a ha => ⟨ha, rfl⟩)
       case y6 =>
        refine Zg fun K11 hK11 => ?_
        refine Zf [3, 3] ?_
        refine Zc rfl (fun _ => Yh (Zb rfl) Zl) ?_
        refine Zc rfl (fun _ => Ze (Zb rfl)) ?_
        refine Zj [(2, _, _), (3, _, _), (4, _, _)] (Za rfl (Za rfl (Za rfl (Zd _)))) ?_
        refine Zh (hK11 _ _ ?_)
        refine' Yk [(2, _, _)] (Za rfl (Za rfl (Zd _))) rfl (fun hb7 => ?y7) (fun a ha => ⟨ha, rfl⟩)
        case y7 =>
         refine Zg fun K12 hK12 => ?_
         refine Zf [3, 3] ?_
         refine Zc rfl (fun _ => Yh (Zb rfl) Zl) ?_
         refine Zc rfl (fun _ => Ze (Zb rfl)) ?_
         refine Zj [(2, _, _), (3, _, _), (4, _, _)] (Za rfl (Za rfl (Za rfl (Zd _)))) ?_
         refine Zh (hK12 _ _ ?_)
         refine' Yk [(2, _, _)] (Za rfl (Za rfl (Zd _))) rfl (fun hb8 => ?y8) (fun a ha => ⟨ha, rfl⟩)
         case y8 =>
          refine Zg fun K13 hK13 => ?_
          refine Zf [3, 3] ?_
          refine Zc rfl (fun _ => Yh (Zb rfl) Zl) ?_
          refine Zc rfl (fun _ => Ze (Zb rfl)) ?_
          refine Zj [(2, _, _), (3, _, _), (4, _, _)] (Za rfl (Za rfl (Za rfl (Zd _)))) ?_
          refine Zh (hK13 _ _ ?_)
          refine' Yk [(2, _, _)] (Za rfl (Za rfl (Zd _))) rfl (fun hb9 => ?y9) (fun a ha => ⟨ha, rfl⟩)
          case y9 =>
           refine Zf [3, 3] ?_
           refine Zc rfl (fun _ => Yh (Zb rfl) Zl) ?_
           refine Zc rfl (fun _ => Ze (Zb rfl)) ?_
           refine Zj [(4, _, _), (2, _, _)] (Za rfl (Za rfl (Zd _))) ?_
           exact Zh (fun a ha => ⟨ha, rfl⟩)
  case n1 =>
   refine Zz (Zb rfl) (fun h10 => ?_) (fun h10 => ?_)
   · (try simp only [bsimp] at h10)
     refine Zg fun K14 hK14 => ?_
     refine Zf [3] ?_
     refine Zc rfl (fun _ => Ze Zl) ?_
     refine Zj [(2, _, _)] (Za rfl (Zd _)) ?_
     refine Zh (hK14 _ _ ?_)
     refine Yf (Yj rfl rfl ?_)
     refine ⟨congrArg Value.bool ?_, g⟩
     simp only [typeNameB, anyS, Ul]; exact (h10).symm
   (try simp only [bsimp] at h10)
   refine Yq (hK2 _ _ ?_)
   refine Yi [(2, _, _)] (Za rfl (Zd _)) ?_
   refine Zg fun K15 hK15 => ?_
   refine Zf [3] ?_
   refine Zc rfl (fun _ => Ze Zl) ?_
   refine Zh (hK15 _ _ ?_)
   refine Yf (Yj rfl rfl ?_)
   refine ⟨congrArg Value.bool ?_, g⟩
   simp only [typeNameB, anyS, Ul]; exact (h10).symm
def leafB (t : Nd) : Bool := decide ((t.kids.length : Int) = 0)
def isTypeB (t : Nd) : Bool := bif decide (t.kind = 8) then nameB t.text && leafB t else bif decide (t.kind = 7) then typeNameB t.text && leafB t else false
theorem Vnb (t : Nd) (p : Option Addr) (c : Nat) (w : World) : Ret PP fn_r03_IsType #[ndV t (.slice p t.kids.length c)] w fun v w' => v = .bool (isTypeB t) ∧ G w w' := by
  have g := G.refl w
  refine Ym (m := 27) Qbb rfl rfl [(0, True, _)] (Za rfl (Zd _)) ?_
  refine Zg fun K1 hK1 => ?_
  refine Zf [1, 3] ?_
  refine Wd rfl (Zb rfl) rfl ?_
  intro b1 w1 N1
  have l1 := N1.ge g
  have g := g.trans (N1.g)
  have B1 := N1.blk
  refine Zc rfl (fun _ => Ze Zl) ?_
  refine Zj [(1, _, _), (2, _, _)] (Za rfl (Za rfl (Zd _))) ?_
  refine Zh (hK1 _ _ ?_)
  refine Zg fun K2 hK2 => ?_
  refine Zg fun K3 hK3 => ?_
  refine Zf [3, 0] ?_
  refine Zc rfl (fun _ => Zm Ys (Zb rfl)) ?_
  refine Ya rfl (Zt Yy (Zb rfl) (fun _ => B1.at_ rfl)) ?_
  refine Zj [(1, _, _), (2, _, _), (4, _, _)] (Za rfl (Za rfl (Za rfl (Zd _)))) ?_
  refine Zh (hK3 _ _ ?_)
  refine Yp ?_
  refine Zg fun K4 hK4 => ?_
  refine Zf [3, 3] ?_
  refine Zc rfl (fun _ => Yg (Zb rfl) Zl) ?_
  refine Zc rfl (fun _ => Ze (Zb rfl)) ?_
  refine Zj [(1, _, _), (2, _, _), (4, _, _), (5, _, _)] (Za rfl (Za rfl (Za rfl (Za rfl (Zd _))))) ?_
  refine Zh (hK4 _ _ ?_)
  refine Zz (Zb rfl) (fun h1 => ?_) (fun h1 => ?_)
  · (try simp only [bsimp] at h1)
    refine Zg fun K5 hK5 => ?_
    refine Zf [3, 0, 1, 3, 3, 0, 3, 3, 3, 3] ?_
    refine Zc rfl (fun _ => Zm Yw (Zb rfl)) ?_
    refine Ya rfl (Zt Yt (Zb rfl) (fun _ => B1.at_ rfl)) ?_
    refine Xe rfl (Zu Qj Yl (Zk (Zb rfl) (Zn)) rfl) (Yoa _ _) (fun w9 g9 => ?_)
    have g := g.trans (g9)
    replace B1 := B1.grow (g9)
    refine Zc rfl (fun _ => Zi (Zb rfl)) ?_
    refine Zs rfl rfl rfl (fun _ => Zm Zv (Zb rfl)) ?_
    refine Yr rfl rfl rfl (Zt Zq (Zy rfl id) (fun _ => B1.at_ rfl)) ?_
    refine Zs rfl rfl rfl (fun _ => Xx Zo (Zy rfl id)) ?_
    refine Zs rfl rfl rfl (fun _ => Yg (Zy rfl id) Zl) ?_
    refine Zc rfl (fun _ => Ye (Zb rfl) (Zy rfl id)) ?_
    refine Zc rfl (fun _ => Ze (Zb rfl)) ?_
    refine Zj [(2, _, _)] (Za rfl (Zd _)) ?_
    refine Zh (hK5 _ _ ?_)
    refine Yf (Yj rfl rfl ?_)
    refine ⟨congrArg Value.bool ?_, g⟩
    unfold isTypeB; simp only [h1, cond_true, cond_false] <;> rfl
  (try simp only [bsimp] at h1)
  refine Zg fun K6 hK6 => ?_
  refine Zf [3, 3] ?_
  refine Zc rfl (fun _ => Yg (Zb rfl) Zl) ?_
  refine Zc rfl (fun _ => Ze (Zb rfl)) ?_
  refine Zj [(1, _, _), (2, _, _), (16, _, _)] (Za rfl (Za rfl (Za rfl (Zd _)))) ?_
  refine Zh (hK6 _ _ ?_)
  refine Zz (Zb rfl) (fun h2 => ?_) (fun h2 => ?_)
  · (try simp only [bsimp] at h2)
    refine Zg fun K7 hK7 => ?_
    refine Zf [3, 0, 1, 3, 3, 0, 3, 3, 3, 3] ?_
    refine Zc rfl (fun _ => Zm Yw (Zb rfl)) ?_
    refine Ya rfl (Zt Yt (Zb rfl) (fun _ => B1.at_ rfl)) ?_
    refine Xe rfl (Zu Qfb Yl (Zk (Zb rfl) (Zn)) rfl) (typename_ok _ _) (fun w20 g20 => ?_)
    have g := g.trans (g20)
    replace B1 := B1.grow (g20)
    refine Zc rfl (fun _ => Zi (Zb rfl)) ?_
    refine Zs rfl rfl rfl (fun _ => Zm Zv (Zb rfl)) ?_
    refine Yr rfl rfl rfl (Zt Zq (Zy rfl id) (fun _ => B1.at_ rfl)) ?_
    refine Zs rfl rfl rfl (fun _ => Xx Zo (Zy rfl id)) ?_
    refine Zs rfl rfl rfl (fun _ => Yg (Zy rfl id) Zl) ?_
    refine Zc rfl (fun _ => Ye (Zb rfl) (Zy rfl id)) ?_
    refine Zc rfl (fun _ => Ze (Zb rfl)) ?_
    refine Zj [(2, _, _)] (Za rfl (Zd _)) ?_
    refine Zh (hK7 _ _ ?_)
    refine Yf (Yj rfl rfl ?_)
    refine ⟨congrArg Value.bool ?_, g⟩
    unfold isTypeB; simp only [h1, h2, cond_true, cond_false] <;> rfl
  (try simp only [bsimp] at h2)
  refine Yq (hK2 _ _ ?_)
  refine Yi [(2, _, _)] (Za rfl (Zd _)) ?_
  refine Zg fun K8 hK8 => ?_
  refine Zf [3] ?_
  refine Zc rfl (fun _ => Ze Zl) ?_
  refine Zh (hK8 _ _ ?_)
  refine Yf (Yj rfl rfl ?_)
  refine ⟨congrArg Value.bool ?_, g⟩
  unfold isTypeB; simp only [h1, h2, cond_true, cond_false] <;> rfl
def binOps : List (List UInt8) := [[124, 124], [38, 38], [61, 61], [33, 61], [60], [60, 61], [62], [62, 61], [43], [45], [42], [47], [37]]
theorem binop_ok (s : List UInt8) (w : World) : Ret PP Qcb #[Str s] w fun v w' => v = .bool (anyS binOps s) ∧ G w w' := by
  have g := G.refl w
  refine Ym (m := 18) Xqb rfl rfl [(0, True, _)] (Za rfl (Zd _)) ?_
  refine Zg fun K1 hK1 => ?_
  refine Zf [3] ?_
  refine Zc rfl (fun _ => Ze Zl) ?_
  refine Zh (hK1 _ _ ?_)
  refine Zg fun K2 hK2 => ?_
  refine Zg fun K3 hK3 => ?_
  refine Zf [3] ?_
  refine Zc rfl (fun _ => Zi (Zb rfl)) ?_
  refine Zj [(2, _, _), (3, _, _)] (Za rfl (Za rfl (Zd _))) ?_
  refine Zh (hK3 _ _ ?_)
  refine Yp ?_
  refine Zg fun K4 hK4 => ?_
  refine Zg fun K5 hK5 => ?_
  refine Zf [3, 3] ?_
  refine Zc rfl (fun _ => Yh (Zb rfl) Zl) ?_
  refine Zc rfl (fun _ => Ze (Zb rfl)) ?_
  refine Zj [(2, _, _), (3, _, _), (4, _, _)] (Za rfl (Za rfl (Za rfl (Zd _)))) ?_
  refine Zh (hK5 _ _ ?_)
  refine' Yk [(2, _, _)] (Za rfl (Za rfl (Zd _))) rfl (fun hb1 => ?y1) (hK4 _ _ ?n1)
  case y1 =>
   refine Zg fun K6 hK6 => ?_
   refine Zf [3, 3] ?_
   refine Zc rfl (fun _ => Yh (Zb rfl) Zl) ?_
   refine Zc rfl (fun _ => Ze (Zb rfl)) ?_
   refine Zj [(2, _, _), (3, _, _), (4, _, _)] (Za rfl (Za rfl (Za rfl (Zd _)))) ?_
   refine Zh (hK6 _ _ ?_)
   refine' Yk [(2, _, _)] (Za rfl (Za rfl (Zd _))) rfl (fun hb2 => ?y2) (fun a ha => ⟨ha, rfl⟩)
   case y2 =>
    refine Zg fun K7 hK7 => ?_
    refine Zf [3, 3] ?_
    refine Zc rfl (fun _ => Yh (Zb rfl) Zl) ?_
    refine Zc rfl (fun _ => Ze (Zb rfl)) ?_
    refine Zj [(2, _, _), (3, _, _), (4, _, _)] (Za rfl (Za rfl (Za rfl (Zd _)))) ?_
    refine Zh (hK7 _ _ ?_)
    refine' Yk [(2, _, _)] (Za rfl (Za rfl (Zd _))) rfl (fun hb3 => ?y3) (fun a ha => ⟨ha, rfl⟩)
    case y3 =>
     refine Zg fun K8 hK8 => ?_
     refine Zf [3, 3] ?_
     refine Zc rfl (fun _ => Yh (Zb rfl) Zl) ?_
     refine Zc rfl (fun _ => Ze (Zb rfl)) ?_
     refine Zj [(2, _, _), (3, _, _), (4, _, _)] (Za rfl (Za rfl (Za rfl (Zd _)))) ?_
     refine Zh (hK8 _ _ ?_)
     refine' Yk [(2, _, _)] (Za rfl (Za rfl (Zd _))) rfl (fun hb4 => ?y4) (fun a ha => ⟨ha, rfl⟩)
     case y4 =>
      refine Zg fun K9 hK9 => ?_
      refine Zf [3, 3] ?_
      refine Zc rfl (fun _ => Yh (Zb rfl) Zl) ?_
      refine Zc rfl (fun _ => Ze (Zb rfl)) ?_
      refine Zj [(2, _, _), (3, _, _), (4, _, _)] (Za rfl (Za rfl (Za rfl (Zd _)))) ?_
      refine Zh (hK9 _ _ ?_)
      refine' Yk [(2, _, _)] (Za rfl (Za rfl (Zd _))) rfl (fun hb5 => ?y5) (fun a ha => ⟨ha, rfl⟩)
      case y5 =>
       refine Zg fun K10 hK10 => ?_
       refine Zf [3, 3] ?_
       refine Zc rfl (fun _ => Yh (Zb rfl) Zl) ?_
       refine Zc rfl (fun _ => Ze (Zb rfl)) ?_
       refine Zj [(2, _, _), (3, _, _), (4, _, _)] (Za rfl (Za rfl (Za rfl (Zd _)))) ?_
       refine Zh (hK10 _ _ ?_)
       refine' Yk [(2, _, _)] (Za rfl (Za rfl (Zd _))) rfl (fun hb6 => ?y6) (fun a ha => ⟨ha, rfl⟩)
       case y6 =>
        refine Zg fun K11 hK11 => ?_
        refine Zf [3, 3] ?_
        refine Zc rfl (fun _ => Yh (Zb rfl) Zl) ?_
        refine Zc rfl (fun _ => Ze (Zb rfl)) ?_
        refine Zj [(2, _, _), (3, _, _), (4, _, _)] (Za rfl (Za rfl (Za rfl (Zd _)))) ?_
        refine Zh (hK11 _ _ ?_)
        refine' Yk [(2, _, _)] (Za rfl (Za rfl (Zd _))) rfl (fun hb7 => ?y7) (fun a ha => ⟨ha, rfl⟩)
        case y7 =>
         refine Zg fun K12 hK12 => ?_
         refine Zf [3, 3] ?_
         refine Zc rfl (fun _ => Yh (Zb rfl) Zl) ?_
         refine Zc rfl (fun _ => Ze (Zb rfl)) ?_
         refine Zj [(2, _, _), (3, _, _), (4, _, _)] (Za rfl (Za rfl (Za rfl (Zd _)))) ?_
         refine Zh (hK12 _ _ ?_)
         refine' Yk [(2, _, _)] (Za rfl (Za rfl (Zd _))) rfl (fun hb8 => ?y8) (fun a ha => ⟨ha, rfl⟩)
         case y8 =>
          refine Zg fun K13 hK13 => ?_
          refine Zf [3, 3] ?_
          refine Zc rfl (fun _ => Yh (Zb rfl) Zl) ?_
          refine Zc rfl (fun _ => Ze (Zb rfl)) ?_
          refine Zj [(2, _, _), (3, _, _), (4, _, _)] (Za rfl (Za rfl (Za rfl (Zd _)))) ?_
          refine Zh (hK13 _ _ ?_)
          refine' Yk [(2, _, _)] (Za rfl (Za rfl (Zd _))) rfl (fun hb9 => ?y9) (fun a ha => ⟨ha, rfl⟩)
          case y9 =>
           refine Zg fun K14 hK14 => ?_
           refine Zf [3, 3] ?_
           refine Zc rfl (fun _ => Yh (Zb rfl) Zl) ?_
           refine Zc rfl (fun _ => Ze (Zb rfl)) ?_
           refine Zj [(2, _, _), (3, _, _), (4, _, _)] (Za rfl (Za rfl (Za rfl (Zd _)))) ?_
           refine Zh (hK14 _ _ ?_)
           refine' Yk [(2, _, _)] (Za rfl (Za rfl (Zd _))) rfl (fun hb10 => ?y10) (fun a ha => ⟨ha, rfl⟩)
           case y10 =>
            refine Zg fun K15 hK15 => ?_
            refine Zf [3, 3] ?_
            refine Zc rfl (fun _ => Yh (Zb rfl) Zl) ?_
            refine Zc rfl (fun _ => Ze (Zb rfl)) ?_
            refine Zj [(2, _, _), (3, _, _), (4, _, _)] (Za rfl (Za rfl (Za rfl (Zd _)))) ?_
            refine Zh (hK15 _ _ ?_)
            refine' Yk [(2, _, _)] (Za rfl (Za rfl (Zd _))) rfl (fun hb11 => ?y11) (fun a ha => ⟨ha, rfl⟩)
            case y11 =>
             refine Zg fun K16 hK16 => ?_
             refine Zf [3, 3] ?_
             refine Zc rfl (fun _ => Yh (Zb rfl) Zl) ?_
             refine Zc rfl (fun _ => Ze (Zb rfl)) ?_
             refine Zj [(2, _, _), (3, _, _), (4, _, _)] (Za rfl (Za rfl (Za rfl (Zd _)))) ?_
             refine Zh (hK16 _ _ ?_)
             refine' Yk [(2, _, _)] (Za rfl (Za rfl (Zd _))) rfl (fun hb12 => ?y12) (fun a ha => ⟨ha, rfl⟩)
             case y12 =>
              refine Zf [3, 3] ?_
              refine Zc rfl (fun _ => Yh (Zb rfl) Zl) ?_
              refine Zc rfl (fun _ => Ze (Zb rfl)) ?_
              refine Zj [(4, _, _), (2, _, _)] (Za rfl (Za rfl (Zd _))) ?_
              exact Zh (fun a ha => ⟨ha, rfl⟩)
  case n1 =>
   refine Zz (Zb rfl) (fun h13 => ?_) (fun h13 => ?_)
   · (try simp only [bsimp] at h13)
     refine Zg fun K17 hK17 => ?_
     refine Zf [3] ?_
     refine Zc rfl (fun _ => Ze Zl) ?_
     refine Zj [(2, _, _)] (Za rfl (Zd _)) ?_
     refine Zh (hK17 _ _ ?_)
     refine Yf (Yj rfl rfl ?_)
     refine ⟨congrArg Value.bool ?_, g⟩
     simp only [anyS, binOps]; exact (h13).symm
   (try simp only [bsimp] at h13)
   refine Yq (hK2 _ _ ?_)
   refine Yi [(2, _, _)] (Za rfl (Zd _)) ?_
   refine Zg fun K18 hK18 => ?_
   refine Zf [3] ?_
   refine Zc rfl (fun _ => Ze Zl) ?_
   refine Zh (hK18 _ _ ?_)
   refine Yf (Yj rfl rfl ?_)
   refine ⟨congrArg Value.bool ?_, g⟩
   simp only [anyS, binOps]; exact (h13).symm
end Go.Rk
