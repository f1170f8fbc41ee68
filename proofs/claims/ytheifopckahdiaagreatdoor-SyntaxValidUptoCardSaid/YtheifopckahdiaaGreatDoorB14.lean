/- Merged texts of one road: Syl, Y. Conditions: each text's own. -/
import Derived.Test.YtheifopckahdiaaGreatDoorB13
import Derived.Test.YtheifopckahdiaaGreatDoorCards
import Derived.Test.YtheifopckahdiaaGreatDoorTie
import Derived.Test.YtheifopckahdiaaGreatDoorB04
import Derived.WalkKit
import Derived.ProofKit
import Derived.OpenShut
import Derived.Deep.DeepHandedRow
import Derived.Deep.DeepWitnessRowRef
import Derived.Lib.LaidTab
import Derived.Stop.LaidErr
import Derived.ShutString
import Derived.Below
import Derived.ChangeMaps5
import Derived.Test.YtheifopckahdiaaGreatDoorB02
set_option linter.unusedSimpArgs false
set_option linter.unusedVariables false
namespace Go.Rk
open Go Go.RowKit
set_option linter.unusedVariables false
theorem great_ok (t : Nd) (v : Value) (D : Nat → Prop) (w : World) (hk : Kd w D t.kids v) (hc : count t ≤ 1048576) : Ret PP fn_l03_great #[ndV t v] w fun r w' => r = .bool (decide ((300 : Int) < (count t : Nat))) ∧ G w w' := by
  have g := G.refl w
  refine ret_of_sc (m := 6) func_l03_great rfl rfl [(0, True, _)] (sub_cons rfl (sub_nil _)) ?_
  refine sc_seq fun K1 hK1 => ?_
  refine sc_text [1, 3] ?_
  refine sr_box rfl (ev_t rfl) rfl ?_
  intro b1 w1 N1
  have l1 := N1.ge g
  have g := g.trans (N1.g)
  have B1 := N1.blk
  refine sr_pu rfl (fun _ => rd_assign ev_c) ?_
  refine sr_sub [(1, _, _), (2, _, _)] (sub_cons rfl (sub_cons rfl (sub_nil _))) ?_
  refine sr_nil (hK1 _ _ ?_)
  refine sc_seq fun K2 hK2 => ?_
  refine sc_text [0, 1, 3, 3] ?_
  refine sr_rd rfl (rd_loads agg_api_Node (ev_t rfl) rfl (fun _ => B1.row)) ?_
  refine sr_call rfl (rc_call go_r03_Count ev_f (args_cons (ev_t rfl) (args_nil)) rfl) (rcount_ok t v D _ (hk.grow g) (by omega)) ?_
  rintro v4 w4 ⟨rfl, g4⟩
  refine ⟨fun _ => g4, ?_⟩
  have g := g.trans (g4)
  replace B1 := B1.grow (g4)
  refine sr_pu rfl (fun _ => rd_gt (ev_t rfl) ev_c) ?_
  refine sr_pu rfl (fun _ => rd_assign (ev_t rfl)) ?_
  refine sr_sub [(2, _, _)] (sub_cons rfl (sub_nil _)) ?_
  refine sr_nil (hK2 _ _ ?_)
  refine sc_ret (t_ret1 rfl rfl ?_)
  exact ⟨rfl, g⟩
theorem svalid_law (t : Nd) (v : Value) (D : Nat → Prop) (w : World) (hL : Laid w) (hb3 : 4 ≤ w.heap.size) (hT : TabP w) (hk : Kd w D t.kids v) (hc : count t ≤ 1048576) : Ret PP fn_l03_SyntaxValid #[ndV t v] w fun r w' => r = .bool true ∧ G w w' := by
  have g := G.refl w
  have hln := kids_le t
  refine ret_of_sc (m := 27) func_l03_SyntaxValid rfl rfl [(0, True, _)] (sub_cons rfl (sub_nil _)) ?_
  refine sc_seq fun K1 hK1 => ?_
  refine sc_text [1, 3] ?_
  refine sr_box rfl (ev_t rfl) rfl ?_
  intro b1 w1 N1
  have l1 := N1.ge g
  have g := g.trans (N1.g)
  try have hk9 := hk9.grow (N1.g)
  have B1 := N1.blk
  refine sr_pu rfl (fun _ => rd_assign ev_c) ?_
  refine sr_sub [(1, _, _), (2, _, _)] (sub_cons rfl (sub_cons rfl (sub_nil _))) ?_
  refine sr_nil (hK1 _ _ ?_)
  refine sc_seq fun K2 hK2 => ?_
  refine sc_seq fun K3 hK3 => ?_
  refine sc_text [1, 3] ?_
  refine sr_call rfl (rc_call go_l03_awake ev_f (args_nil) rfl) (awake03_ok _ (hL.grow g) (by have := g.size; omega) (hT.grow g)) ?_
  rintro v4 w4 ⟨rfl, g4⟩
  refine ⟨fun _ => g4, ?_⟩
  have g := g.trans (g4)
  replace B1 := B1.grow (g4)
  try have hk9 := hk9.grow (g4)
  refine sr_pu rfl (fun _ => rd_not (ev_t rfl)) ?_
  refine sr_sub [(1, _, _), (2, _, _), (5, _, _)] (sub_cons rfl (sub_cons rfl (sub_cons rfl (sub_nil _)))) ?_
  refine sr_nil (hK3 _ _ ?_)
  refine sc_cond (ev_t rfl) (fun h1 => ?_) (fun h1 => ?_)
  · exfalso; cases h1
    done
  (try simp only [bsimp] at h1)
  refine sc_skip (hK2 _ _ ?_)
  refine sc_sub [(1, _, _), (2, _, _)] (sub_cons rfl (sub_cons rfl (sub_nil _))) ?_
  refine sc_seq fun K4 hK4 => ?_
  refine sc_seq fun K5 hK5 => ?_
  refine sc_text [0, 1] ?_
  refine sr_rd rfl (rd_loads agg_api_Node (ev_t rfl) rfl (fun _ => B1.row)) ?_
  refine sr_call rfl (rc_call go_l03_great ev_f (args_cons (ev_t rfl) (args_nil)) rfl) (great_ok t v D _ (hk.grow g) hc) ?_
  rintro v7 w7 ⟨rfl, g7⟩
  refine ⟨fun _ => g7, ?_⟩
  have g := g.trans (g7)
  replace B1 := B1.grow (g7)
  try have hk9 := hk9.grow (g7)
  refine sr_sub [(1, _, _), (2, _, _), (7, _, _)] (sub_cons rfl (sub_cons rfl (sub_cons rfl (sub_nil _)))) ?_
  refine sr_nil (hK5 _ _ ?_)
  refine sc_cond (ev_t rfl) (fun h2 => ?_) (fun h2 => ?_)
  · (try simp only [bsimp] at h2)
    refine sc_seq fun K6 hK6 => ?_
    refine sc_text [3] ?_
    refine sr_pu rfl (fun _ => rd_assign ev_c) ?_
    refine sr_sub [(1, _, _), (2, _, _)] (sub_cons rfl (sub_cons rfl (sub_nil _))) ?_
    refine sr_nil (hK6 _ _ ?_)
    refine sc_ret (t_ret1 rfl rfl ?_)
    refine ⟨congrArg Value.bool ?_, g⟩
    simp [smB_refl]
  replace h2 : count t ≤ 300 := by simp only [decide_eq_false_iff_not] at h2; omega
  refine sc_skip (hK4 _ _ ?_)
  refine sc_sub [(1, _, _), (2, _, _)] (sub_cons rfl (sub_cons rfl (sub_nil _))) ?_
  refine sc_seq fun K7 hK7 => ?_
  refine sc_text [0, 1, 1, 2] ?_
  refine sr_rd rfl (rd_loads agg_api_Node (ev_t rfl) rfl (fun _ => B1.row)) ?_
  refine sr_call rfl (rc_call go_r03_Copy ev_f (args_cons (ev_t rfl) (args_nil)) rfl) (rcopy_ok t v D _ (hk.grow g) (by omega) (by omega)) ?_
  rintro v9 w9 ⟨⟨p9, c9, rfl, hk9⟩, g9⟩
  refine ⟨fun _ => g9, ?_⟩
  have g := g.trans g9
  replace hk9 := hk9.lt
  replace B1 := B1.grow (g9)
  try have hk9 := hk9.grow (g9)
  refine sr_alloc rfl ze_api_Node rfl ?_
  intro b3 w3 N3
  have x3_1 := N3.ne B1
  have l3 := N3.ge g
  have g := g.trans (N3.g)
  replace B1 := B1.grow (N3.g)
  try have hk9 := hk9.grow (N3.g)
  have B3 := N3.blk
  refine sr_store_all rfl sz_api_Node (ev_t rfl) (ev_t rfl) rfl rfl B3 rfl rfl ?_
  intro wS1 hgS1 hzS1
  clear B3
  intro B3
  replace B1 := B1.keep hgS1 (by intro h; injection h with h; first | exact x3_1 h.symm | exact x1_3 h | omega)
  have g := g_only g hgS1 (by intro k hk; injection hk with hk; omega)
  have hk9 := hk9.keep hgS1 (fun b hb _ e => by injection e with e; have := hb.2; have := N3.at_; omega)
  refine sr_sub [(1, _, _), (2, _, _), (3, _, _)] (sub_cons rfl (sub_cons rfl (sub_cons rfl (sub_nil _)))) ?_
  refine sr_nil (hK7 _ _ ?_)
  refine sc_seq fun K8 hK8 => ?_
  skip
  refine sc_draw [0, 1, 0, 1, 3, 3, 0, 1, 0, 1, 3, 3, 3, 0, 0, 1, 3, 3] [true, true, false, true, true, true, true, true, false, true, true, true, true, true, true, true, true, true] [0, 1, 0, 7, 15, 31, 63, 127, 63, 511, 1023, 2047, 4095, 8191, 8191, 32767, 65535, 131071] mix (by kernel_rfl) ?_
  have g := g.trans (G.drew _)
  replace B1 := B1.grow (G.drew _)
  replace B3 := B3.grow (G.drew _)
  try have hk9 := hk9.grow (G.drew _)
  have C1 := B1
  have C3 := B3
  refine sr_rd rfl (rd_loads agg_api_Node (ev_t rfl) rfl (fun _ => B3.row)) ?_
  refine sr_pure rfl (rc_call go_syntax_Valid ev_f (args_cons (ev_t rfl) (args_nil)) rfl) (svalid_ok t _ _ _ (hL.grow g) (by have := g.size; omega) hk9 (by omega)) (fun w11 g11 => ?_)
  have g := g.trans (g11)
  replace B1 := B1.grow (g11)
  replace B3 := B3.grow (g11)
  try have hk9 := hk9.grow (g11)
  refine sr_rd0 rfl (rd_loads agg_api_Node (ev_t rfl) rfl (fun _ => C1.row)) ?_
  refine sr_pure rfl (rc_call go_r03_Valid ev_f (args_cons (ev_t rfl) (args_nil)) rfl) (rvalid03_ok t v D _ (hk.grow g) (by omega)) (fun w13 g13 => ?_)
  have g := g.trans (g13)
  replace B1 := B1.grow (g13)
  replace B3 := B3.grow (g13)
  try have hk9 := hk9.grow (g13)
  refine sr_pu rfl (fun _ => rd_beq und_bool (ev_t rfl) (ev_t rfl)) ?_
  refine sr_pu rfl (fun _ => rd_move (ev_t rfl)) ?_
  refine sr_rdg rfl rfl rfl (rd_loads agg_api_Node (ev_t rfl) rfl (fun _ => B3.row)) ?_
  refine sr_pureg rfl rfl rfl (fun _ => (rc_call go_syntax_Count ev_f (args_cons (ev_u rfl id) (args_nil)) rfl)) (fun hc => scount_ok t _ _ _ hk9 (by omega)) (fun w17 g17 => ?_)
  have g := g.trans (g17)
  replace B1 := B1.grow (g17)
  replace B3 := B3.grow (g17)
  try have hk9 := hk9.grow (g17)
  refine sr_rdg0 rfl rfl rfl (rd_loads agg_api_Node (ev_t rfl) rfl (fun _ => C1.row)) ?_
  refine sr_pureg rfl rfl rfl (fun _ => (rc_call go_r03_Count ev_f (args_cons (ev_u rfl id) (args_nil)) rfl)) (fun hc => rcount_ok t v D _ (hk.grow g) (by omega)) (fun w19 g19 => ?_)
  have g := g.trans (g19)
  replace B1 := B1.grow (g19)
  replace B3 := B3.grow (g19)
  try have hk9 := hk9.grow (g19)
  refine sr_pug rfl rfl rfl (fun _ => rd_eq (ev_u rfl id) (ev_u rfl id)) ?_
  refine sr_pu rfl (fun _ => rd_pick_and (ev_t rfl) (ev_u rfl id)) ?_
  refine sr_pu rfl (fun _ => rd_move (ev_t rfl)) ?_
  refine sr_rdg rfl rfl rfl (rd_loads agg_api_Node (ev_t rfl) rfl (fun _ => B3.row)) ?_
  refine sr_rdg rfl rfl rfl (rd_loads agg_api_Node (ev_t rfl) rfl (fun _ => B1.row)) ?_
  refine sr_pureg rfl rfl rfl (fun _ => (rc_call go_r03_Same ev_f (args_cons (ev_u rfl id) (args_cons (ev_u rfl id) (args_nil))) rfl)) (fun hc => rsame_ok t _ _ t v D _ hk9 (hk.grow g) (by omega)) (fun w25 g25 => ?_)
  have g := g.trans (g25)
  replace B1 := B1.grow (g25)
  replace B3 := B3.grow (g25)
  try have hk9 := hk9.grow (g25)
  refine sr_pu rfl (fun _ => rd_pick_and (ev_t rfl) (ev_u rfl id)) ?_
  refine sr_pu rfl (fun _ => rd_assign (ev_t rfl)) ?_
  refine sr_sub [(2, _, _)] (sub_cons rfl (sub_nil _)) ?_
  refine sr_nil (hK8 _ _ ?_)
  refine sc_ret (t_ret1 rfl rfl ?_)
  refine ⟨congrArg Value.bool ?_, g⟩
  simp [smB_refl]
end Go.Rk
namespace Go.Rk
open Go Go.RowKit Go.ChangeShapes Go.WideShapes Go.ChangeAt
/-- An array of strings that reads as a list of texts holds them. -/
theorem cells_of_strs {H : Type} {enc : TypeId × Value → H} {P : Program} {w : World} {base : Nat} {sp : Nat → Bool} {held : Bool} {fuel : Nat} {t e : TypeId} {n : Nat} {cs : List Value} {ls : List (List UInt8)} {p : List MemPlace}
    (ht : P.underlying t = some (.array n e)) (he : P.underlying e = some .string) (hce : P.cellsOf e = 1) (hct : P.cellsOf t = n)
    (h : DataW.trod enc P w base sp held fuel t cs = some (.agg (ls.map fun l => .lit (.string l)), p)) : cs = ls.map Str := by
  cases fuel with
  | zero => simp [DataW.trod] at h
  | succ fuel =>
    simp only [DataW.trod, ht, hce, hct, Nat.mul_one] at h
    split at h
    · rename_i hl
      obtain ⟨xs, hm, hx⟩ := Option.map_eq_some_iff.1 h
      have hxs : xs.map (·.1) = ls.map fun l => (DataW.lit (.string l) : DataW H) := by
        have := congrArg Prod.fst hx
        simpa using this
      have hxl : xs.length = n := by simpa using Lib.mapM_length hm
      have hzl : ls.length = n := by
        have := congrArg List.length hxs
        simp at this
        omega
      apply List.ext_getElem?
      intro i
      by_cases hi : i < n
      · obtain ⟨b, hb, hf⟩ := Lib.mapM_at hm i i (by simp [hi])
        obtain ⟨s, hc, rfl, _⟩ := DataW.trod_string he hf
        have h1 : cs[i]? = some (.string s) := by
          have := congrArg (·[0]?) hc
          simpa [List.getElem?_take, List.getElem?_drop] using this
        have h2 : (xs.map (·.1))[i]? = some (DataW.lit (.string s.data.toList) : DataW H) := by simp [hb]
        rw [hxs] at h2
        simp only [List.getElem?_map, Option.map_eq_some_iff, DataW.lit.injEq, Lit.string.injEq] at h2
        obtain ⟨z', hz', e⟩ := h2
        rw [h1]
        simp [hz', e]
      · rw [List.getElem?_eq_none (by omega), List.getElem?_eq_none (by simp; omega)]
    · cases h
theorem laid_of {P : Program} {x : String × DataW Unit} {r : List (String × DataW Unit)} {W : World} {g : Nat} {t : TypeId} (h : laidMet P (x :: r) W) (hg : P.globalNamed x.1 = some g) (ht : (P.globals[g]?).map (·.type) = some t) :
    ∃ cs fuel p, W.var? P x.1 = some cs ∧ DataW.trod (fun _ => ()) P W 0 (fun _ => true) false fuel t cs.toList = some (x.2, p) := by
  obtain ⟨n, d⟩ := x
  obtain ⟨ps, ⟨g', t', cs, fuel, p, q, hg', ht', hvar, hd, _, _⟩, _⟩ := h
  obtain rfl := Option.some.inj (hg.symm.trans hg')
  obtain rfl := Option.some.inj (ht.symm.trans ht')
  exact ⟨cs, fuel, p, hvar, hd⟩
abbrev laidL : List (String × DataW Unit) := Go.Proofs.YtheifopckahdiaaGreatDoor.Rows.foldFileRow.laid
theorem laid_cells {W : World} (h : laidMetH PP laidL W) : Laid W := by
  have h0 : laidMet PP laidL W := h
  obtain ⟨cs, fuel, p, hv, hd⟩ := laid_of h0.tail.tail.tail.tail.tail (g := 0) (t := 150) (by kernel_rfl) (by kernel_rfl)
  have hc : cs.toList = opsL.map Str := cells_of_strs (n := 27) (e := 9) (by kernel_rfl) (by kernel_rfl) (by kernel_rfl) (by kernel_rfl) hd
  obtain ⟨cs2, fuel2, p2, hv2, hd2⟩ := laid_of h0.tail.tail.tail (g := 3) (t := 87) (by kernel_rfl) (by kernel_rfl)
  obtain ⟨ms, hms⟩ : ∃ ms, PP.underlying 87 = some (.interface ms) := Go.underlying_of_isIface if_error
  obtain ⟨f', u, v, hc2, _⟩ := iface_of_trod hms hd2
  refine ⟨fun j v hj => ?_, ?_⟩
  · have := World.var?_cell (by kernel_rfl : PP.globalNamed _ = some 0) hv j
    rw [Nat.zero_add, this, ← hj, ← hc]; simp
  · have := World.var?_cell (by kernel_rfl : PP.globalNamed _ = some 3) hv2 0
    refine ⟨.iface u v, ?_, .inr ⟨_, _, rfl⟩⟩
    rw [this, ← Array.getElem?_toList, hc2]; rfl
theorem laid_size {W : World} (h : Laid W) : 4 ≤ W.heap.size := by
  obtain ⟨ev, h1, _⟩ := h.err
  exact World.block_lt_of_cell? W _ h1
end Go.Rk
namespace Go.Proofs.YtheifopckahdiaaGreatDoor
open Go Go.RowKit Go.ChangeShapes Go.WideShapes Go.ChangeAt Go.Rk
theorem own : ownKnob Tryz.prog.godebug = none := by kernel_rfl
def cellOf : DataW Unit → Value
  | .lit (.int k z) => .int k z
  | .lit (.string s) => .string ⟨s.toArray⟩
  | _ => .nilIface
def cellsOf : DataW Unit → Array Value
  | .agg l => (l.map cellOf).toArray
  | _ => #[]
def textOf : DataW Unit → Value
  | .iface _ (.ptr (.agg [d])) => cellOf d
  | _ => .nilIface
def put (h : Array Obj) (g : Nat) (cs : Array Value) : Array Obj := h.modify g fun
  | .cells _ t frozen => .cells cs t frozen
  | o => o
/-- A world that holds what the rows list. -/
noncomputable def laidWorld (os : Os) : World :=
  let N := (World.settled Tryz.prog os).heap.size
  let w0 := World.holding Tryz.prog os ⟨#[.cells #[textOf Rows.laid_strconv_ErrSyntax] 178, .cells #[textOf Rows.laid_strconv_ErrRange] 178], #[], []⟩
  let h0 := put w0.heap 0 (cellsOf Rows.laid_interleave_scan_operators)
  let h1 := put h0 1 (cellsOf Rows.laid_internal_strconv_uint64pow10)
  let h2 := put h1 2 #[.iface 176 (.pointer (some ⟨N, 0, none⟩))]
  let h3 := put h2 3 #[.iface 176 (.pointer (some ⟨N + 1, 0, none⟩))]
  let h4 := put h3 4 (cellsOf Rows.laid_math_bits_deBruijn32tab)
  let h5 := put h4 5 (cellsOf Rows.laid_math_bits_deBruijn64tab)
  { w0 with heap := h5 }
end Go.Proofs.YtheifopckahdiaaGreatDoor
