/- MinimizeCutsAreSmaller, where what it reads is of bulk at most 1048576: for every input it returns true, and the input reads as it did. Conditions: none beyond the card. -/
import Derived.Test.YtddkmmfmmamipaaGreatDoorM05
import Derived.Test.YtddkmmfmmamipaaGreatDoorM09
import Derived.Carry
namespace Go.Proofs.YtddkmmfmmamipaaGreatDoor
open Go Go.RowKit Go.ChangeShapes Go.WideShapes Go.ChangeAt Go.Rk
namespace minimizeCutsAreSmaller
theorem Whg : laidOutB Aj = true := by kernel_rfl
theorem Vle : Aj.readableRec 26 = true := by kernel_rfl
theorem rowed26 : Nat.blt 26 Aj.types.size = true := by kernel_rfl
set_option maxRecDepth 100000 in
theorem Xgc (C' : Type) (enc : TypeId × Value → C') (W : World) (base : Nat) (args : Array Value) (ds gs : List (DataW C')) (before : List MemPlace)
    (hval : ∀ (j : Nat) t v, Tryz.f6.params[j]? = some t → args[j]? = some v → Value.okWide Tryz.prog W .any base t v)
    (hW : DataW.Whole enc Tryz.prog Tryz.f6.params.toList Rows.minimizeCutsAreSmallerSpec.vars false W args.toList ds gs before) (hbulk : Rows.uptoBulkAll (ds ++ gs) ≤ 1048576) (hL : laidMetH Tryz.prog Rows.minimizeCutsAreSmallerUptoRow.laid W) :
    Calls Tryz.prog 6 args W fun e W' => ∃ v, e = .returned v ∧ Rows.minimizeCutsAreSmallerSpec.post enc Tryz.prog Tryz.f6 false true false false W args v W' := by
  have hW' := hW
  have hlt := hW.lt
  obtain ⟨p, q, hA0, hV, rfl, hfz, hnd⟩ := hW
  have hA : DataW.TrodAll enc Tryz.prog W 0 (fun _ => true) true Tryz.f6.params.toList args.toList ds p := hA0
  rw [Tryz.params6] at hA hval
  obtain ⟨v0, vs0, d0, ds0, p0, q0, hargs, rfl, rfl, h0, r0⟩ := trodAll_cons hA
  obtain ⟨rfl, rfl, rfl⟩ := trodAll_nil r0
  obtain rfl : args = #[v0] := by cases args; simp_all
  obtain ⟨rfl, rfl⟩ := trodVars_none hV
  obtain ⟨t0, u0, rfl, hk0, ok0, hc0⟩ := rO (hval 0 26 v0 rfl rfl) h0
  clear hA0
  have hn0 : count t0 ≤ 1048576 := by
    have hb := TY _ d0 (by simp : d0 ∈ [d0] ++ ([] : List (DataW C')))
    have hbulk : Ky ([d0] ++ ([] : List (DataW C'))) ≤ 1048576 := hbulk
    omega
  have hl := tL hL
  have hx := iN hL
  have walk : Bx Aj 6 #[BV t0 u0] W fun v w' => v = .bool true ∧ G W w' := oW t0 _ _ W (FZ.mk' hl hx (lC hL) (gY hl)) hk0 hn0
  refine Calls.mono walk fun e W' ⟨v, he, hv, hg⟩ => ?_
  subst he hv
  have hb : Below W.heap.size W W' := hg
  have k0 := Go.RowKit.Below.trod Whg Vle (Nat.blt_eq.mp rowed26) h0 hb (fun x hx => hlt x (by simp [hx]))
  refine ⟨_, rfl, _, _, _, [], p0 ++ ([]), [], hW', ?_, ?_, rfl, hb.frame _, fun h => by cases h⟩
  · exact trodAll_cons_mk (shut_bool Tryz.underlying4 _) trodAll_mk0
  · exact trodAll_cons_mk k0 (trodAll_mk0)
theorem Ydf (os : Os) : laidMet Tryz.prog Pc ((UU os).forCall (fun _ _ => 0) ⟨#[], #[.agg #[.int .i64 0, .string ⟨#[]⟩, .int .i64 0, .int .i64 0, .slice none 0 0, .int .i64 0, .string ⟨#[]⟩, .int .i64 0, .int .i64 0]], []⟩).memory :=
  laidMet_of_run' 8 (by kernel_rfl) (by kernel_rfl)
theorem reads (os : Os) {C' : Type} (enc : TypeId × Value → C') : ∃ places, DataW.whole enc Tryz.prog ((UU os).forCall (fun _ _ => 0) ⟨#[], #[.agg #[.int .i64 0, .string ⟨#[]⟩, .int .i64 0, .int .i64 0, .slice none 0 0, .int .i64 0, .string ⟨#[]⟩, .int .i64 0, .int .i64 0]], []⟩).memory Tryz.f6.params.toList Rows.minimizeCutsAreSmallerSpec.vars false (#[.agg #[.int .i64 0, .string ⟨#[]⟩, .int .i64 0, .int .i64 0, .slice none 0 0, .int .i64 0, .string ⟨#[]⟩, .int .i64 0, .int .i64 0]] : Array Value).toList 8 = some ([.agg [.lit (.int .i64 0), .lit (.string []), .lit (.int .i64 0), .lit (.int .i64 0), .nil, .agg [.lit (.int .i64 0), .lit (.string [])], .lit (.int .i64 0), .lit (.int .i64 0)]], [], places) :=
  ⟨[], by kernel_rfl⟩
set_option maxRecDepth 100000 in
theorem Qgg (os : Os) (started : os.Started) (C' : Type) (enc : TypeId × Value → C') (F : Stop.Interp) :
    ReturnsInHanded {} Tryz.checked os 6 .any ((Rows.OpenSpec.upto Rows.minimizeCutsAreSmallerSpec).preRow enc Tryz.prog Tryz.f6 Rows.minimizeCutsAreSmallerUptoRow.domain false Rows.minimizeCutsAreSmallerUptoRow.laid) (((Rows.OpenSpec.upto Rows.minimizeCutsAreSmallerSpec).at F).post enc Tryz.prog Tryz.f6 false true false false) := by
  obtain ⟨places, hx⟩ := reads os enc
  refine returnsInHanded_of_row (C := Tryz.checked) (s := (Rows.OpenSpec.upto Rows.minimizeCutsAreSmallerSpec)) own started (by kernel_rfl) Tryz.func6
    (witness_row_atRef (enc := enc) (C := Tryz.checked) false (UU os) #[.agg #[.int .i64 0, .string ⟨#[]⟩, .int .i64 0, .int .i64 0, .slice none 0 0, .int .i64 0, .string ⟨#[]⟩, .int .i64 0, .int .i64 0]] rfl (by kernel_rfl) (by kernel_rfl) (by kernel_rfl)
      (OpenSpec.preRow_of_cond 8 hx (by kernel_rfl) (fun k hk => by cases hk; kernel_rfl) (by kernel_rfl) (Ydf os))) ?_
  intro W base args ds gs before hval hW _ hcond _ hL _ _
  have hb : Rows.uptoSmall C' (ds ++ gs) = true := hcond _ rfl
  exact Xgc C' enc W base args ds gs before hval hW (AV hb) hL
theorem said : Rows.MinimizeCutsAreSmallerUptoSaid :=
  OpenClaim.holds_of_cond 6 Tryz.f6 rfl rfl rfl rfl rfl rfl rfl ⟨rfl, rfl, rfl, rfl, rfl⟩ rfl rfl rfl rfl rfl (by kernel_rfl) Tryz.func6 (by kernel_rfl)
    (AV (by kernel_rfl)) (by unfold Func.isWrapper; first | (rw [if_pos (by decide +kernel)]; kernel_rfl) | (rw [if_neg (by decide +kernel)]; exact ⟨rfl, rfl⟩))
    (fun os started C' enc _ F => by rw [OpenClaim.pre_eq_preRow]; exact Qgg os started C' enc F)
theorem Xmd (f : FuncId) (fn : Func) (hf : Tryz.pinned.checked.prog.funcNamed Rows.minimizeCutsAreSmallerUptoRow.func = some f) (hfn : Tryz.pinned.checked.prog.funcs[f]? = some fn) :
    true = Tryz.pinned.checked.prog.looks [] ∧ ∀ (j : Nat) t, fn.params[j]? = some t → Tryz.pinned.checked.prog.wantsStandIn t = false := by
  obtain rfl : f = 6 := Option.some.inj ((show Tryz.prog.funcNamed Rows.minimizeCutsAreSmallerUptoRow.func = some 6 by kernel_rfl).symm.trans hf) |>.symm
  obtain rfl : fn = Tryz.f6 := (Option.some.inj (Tryz.func6.symm.trans hfn)).symm
  refine ⟨by kernel_rfl, fun j t ht => ?_⟩
  rw [Tryz.params6] at ht
  obtain rfl : t = 26 := by simpa using Array.mem_of_getElem? ht
  exact (show Tryz.prog.wantsStandIn 26 = false by kernel_rfl)
theorem card : Rows.MinimizeCutsAreSmallerUptoCardSaid :=
  Claim7.holds_tied_plain_at .later [] _ _ _ _ said (fun _ h => by cases h) (by kernel_rfl) (fun _ h => by cases h) minimizeCutsAreSmallerUpto_row_tie rfl ⟨rfl, rfl⟩ (by kernel_rfl) rfl Xmd (by kernel_rfl)
end minimizeCutsAreSmaller
end Go.Proofs.YtddkmmfmmamipaaGreatDoor
