/- The last frame of the seat: what the rows list, a world that holds it. Conditions: none. -/
import Derived.Test.YtheifopckahdiaaDoorCards
import Derived.Test.YtheifopckahdiaaDoorTie
import Derived.Test.YtheifopckahdiaaDoorFldE
import Derived.WalkKit
import Derived.ProofKit
import Derived.OpenShut
import Derived.Deep.DeepHandedRow
import Derived.Deep.DeepWitnessRowRef
import Derived.Lib.LaidTab
import Derived.Stop.LaidErr
import Derived.ShutString
import Derived.Below
import Derived.ChangeMaps5
import Derived.Test.YtheifopckahdiaaDoorPost
namespace Go.Rk
open Go Go.RowKit Go.ChangeShapes Go.WideShapes Go.ChangeAt
/-- An array of strings that reads as a list of texts holds them. -/
theorem cells_of_strs {H : Type} {enc : TypeId × Value → H} {P : Program} {w : World} {base : Nat} {sp : Nat → Bool} {held : Bool} {fuel : Nat} {t e : TypeId} {n : Nat} {cs : List Value} {ls : List (List UInt8)} {p : List MemPlace}
    (ht : P.underlying t = some (.array n e)) (he : P.underlying e = some .string) (hce : P.cellsOf e = 1) (hct : P.cellsOf t = n)
    (h : DataW.trod enc P w base sp held fuel t cs = some (.agg (ls.map fun l => .lit (.string l)), p)) : cs = ls.map Str := by
  cases fuel with
  | zero => simp [DataW.trod] at h
  | succ fuel =>
    simp only [DataW.trod, ht, hce, hct, Nat.mul_one] at h
    split at h
    · rename_i hl
      obtain ⟨xs, hm, hx⟩ := Option.map_eq_some_iff.1 h
      have hxs : xs.map (·.1) = ls.map fun l => (DataW.lit (.string l) : DataW H) := by
        have := congrArg Prod.fst hx
        simpa using this
      have hxl : xs.length = n := by simpa using Lib.mapM_length hm
      have hzl : ls.length = n := by
        have := congrArg List.length hxs
        simp at this
        omega
      apply List.ext_getElem?
      intro i
      by_cases hi : i < n
      · obtain ⟨b, hb, hf⟩ := Lib.mapM_at hm i i (by simp [hi])
        obtain ⟨s, hc, rfl, _⟩ := DataW.trod_string he hf
        have h1 : cs[i]? = some (.string s) := by
          have := congrArg (·[0]?) hc
          simpa [List.getElem?_take, List.getElem?_drop] using this
        have h2 : (xs.map (·.1))[i]? = some (DataW.lit (.string s.data.toList) : DataW H) := by simp [hb]
        rw [hxs] at h2
        simp only [List.getElem?_map, Option.map_eq_some_iff, DataW.lit.injEq, Lit.string.injEq] at h2
        obtain ⟨z', hz', e⟩ := h2
        rw [h1]
        simp [hz', e]
      · rw [List.getElem?_eq_none (by omega), List.getElem?_eq_none (by simp; omega)]
    · cases h
theorem laid_of {P : Program} {x : String × DataW Unit} {r : List (String × DataW Unit)} {W : World} {g : Nat} {t : TypeId} (h : laidMet P (x :: r) W) (hg : P.globalNamed x.1 = some g) (ht : (P.globals[g]?).map (·.type) = some t) :
    ∃ cs fuel p, W.var? P x.1 = some cs ∧ DataW.trod (fun _ => ()) P W 0 (fun _ => true) false fuel t cs.toList = some (x.2, p) := by
  obtain ⟨n, d⟩ := x
  obtain ⟨ps, ⟨g', t', cs, fuel, p, q, hg', ht', hvar, hd, _, _⟩, _⟩ := h
  obtain rfl := Option.some.inj (hg.symm.trans hg')
  obtain rfl := Option.some.inj (ht.symm.trans ht')
  exact ⟨cs, fuel, p, hvar, hd⟩
abbrev laidL : List (String × DataW Unit) := Go.Proofs.YtheifopckahdiaaDoor.Rows.foldValueRow.laid
theorem laid_cells {W : World} (h : laidMetH PP laidL W) : Laid W := by
  have h0 : laidMet PP laidL W := h
  obtain ⟨cs, fuel, p, hv, hd⟩ := laid_of h0.tail.tail.tail.tail.tail (g := 0) (t := 113) (by kernel_rfl) (by kernel_rfl)
  have hc : cs.toList = opsL.map Str := cells_of_strs (n := 27) (e := 9) (by kernel_rfl) (by kernel_rfl) (by kernel_rfl) (by kernel_rfl) hd
  obtain ⟨cs2, fuel2, p2, hv2, hd2⟩ := laid_of h0.tail.tail.tail (g := 3) (t := 76) (by kernel_rfl) (by kernel_rfl)
  obtain ⟨ms, hms⟩ : ∃ ms, PP.underlying 76 = some (.interface ms) := Go.underlying_of_isIface if_error
  obtain ⟨f', u, v, hc2, _⟩ := iface_of_trod hms hd2
  refine ⟨fun j v hj => ?_, ?_⟩
  · have := World.var?_cell (by kernel_rfl : PP.globalNamed _ = some 0) hv j
    rw [Nat.zero_add, this, ← hj, ← hc]; simp
  · have := World.var?_cell (by kernel_rfl : PP.globalNamed _ = some 3) hv2 0
    refine ⟨.iface u v, ?_, .inr ⟨_, _, rfl⟩⟩
    rw [this, ← Array.getElem?_toList, hc2]; rfl
theorem laid_size {W : World} (h : Laid W) : 4 ≤ W.heap.size := by
  obtain ⟨ev, h1, _⟩ := h.err
  exact World.block_lt_of_cell? W _ h1
end Go.Rk
namespace Go.Proofs.YtheifopckahdiaaDoor
open Go Go.RowKit Go.ChangeShapes Go.WideShapes Go.ChangeAt Go.Rk
theorem own : ownKnob Tryd.prog.godebug = none := by kernel_rfl
def cellOf : DataW Unit → Value
  | .lit (.int k z) => .int k z
  | .lit (.string s) => .string ⟨s.toArray⟩
  | _ => .nilIface
def cellsOf : DataW Unit → Array Value
  | .agg l => (l.map cellOf).toArray
  | _ => #[]
def textOf : DataW Unit → Value
  | .iface _ (.ptr (.agg [d])) => cellOf d
  | _ => .nilIface
def put (h : Array Obj) (g : Nat) (cs : Array Value) : Array Obj := h.modify g fun
  | .cells _ t frozen => .cells cs t frozen
  | o => o
/-- A world that holds what the rows list. -/
noncomputable def laidWorld (os : Os) : World :=
  let N := (World.settled Tryd.prog os).heap.size
  let w0 := World.holding Tryd.prog os ⟨#[.cells #[textOf Rows.laid_strconv_ErrSyntax] 143, .cells #[textOf Rows.laid_strconv_ErrRange] 143], #[], []⟩
  let h0 := put w0.heap 0 (cellsOf Rows.laid_interleave_scan_operators)
  let h1 := put h0 1 (cellsOf Rows.laid_internal_strconv_uint64pow10)
  let h2 := put h1 2 #[.iface 141 (.pointer (some ⟨N, 0, none⟩))]
  let h3 := put h2 3 #[.iface 141 (.pointer (some ⟨N + 1, 0, none⟩))]
  let h4 := put h3 4 (cellsOf Rows.laid_math_bits_deBruijn32tab)
  let h5 := put h4 5 (cellsOf Rows.laid_math_bits_deBruijn64tab)
  { w0 with heap := h5 }
end Go.Proofs.YtheifopckahdiaaDoor
