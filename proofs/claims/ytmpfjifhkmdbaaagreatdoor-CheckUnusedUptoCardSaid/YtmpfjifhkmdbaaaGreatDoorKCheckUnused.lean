/- CheckUnused, where what it reads is of bulk at most 1048576: for every input it returns true, and the input reads as it did. Conditions: none beyond the card. -/
import Derived.Test.YtmpfjifhkmdbaaaGreatDoorI04
import Derived.Test.YtmpfjifhkmdbaaaGreatDoorI08
import Derived.Carry
namespace Go.Proofs.YtmpfjifhkmdbaaaGreatDoor
open Go Go.RowKit Go.ChangeShapes Go.WideShapes Go.ChangeAt Go.Rk
namespace checkUnused
theorem Wte : laidOutB PP = true := by kernel_rfl
theorem Qge : PP.readableRec 5 = true := by kernel_rfl
theorem rowed5 : Nat.blt 5 PP.types.size = true := by kernel_rfl
theorem Zze : PP.readableRec 26 = true := by kernel_rfl
theorem rowed26 : Nat.blt 26 PP.types.size = true := by kernel_rfl
set_option maxRecDepth 100000 in
theorem Zbc (H : Type) (enc : TypeId × Value → H) (W : World) (base : Nat) (args : Array Value) (ds gs : List (DataW H)) (before : List MemPlace)
    (hval : ∀ (j : Nat) t v, Tryz.f7.params[j]? = some t → args[j]? = some v → Value.okWide Tryz.prog W .any base t v)
    (hW : DataW.Whole enc Tryz.prog Tryz.f7.params.toList Rows.checkUnusedSpec.vars false W args.toList ds gs before) (hbulk : Rows.uptoBulkAll (ds ++ gs) ≤ 1048576) (hL : laidMetH Tryz.prog Rows.checkUnusedUptoRow.laid W) :
    Calls Tryz.prog 7 args W fun e W' => ∃ v, e = .returned v ∧ Rows.checkUnusedSpec.post enc Tryz.prog Tryz.f7 false true false false W args v W' := by
  have hW' := hW
  have hlt := hW.lt
  obtain ⟨p, q, hA0, hV, rfl, hfz, hnd⟩ := hW
  have hA : DataW.TrodAll enc Tryz.prog W 0 (fun _ => true) true Tryz.f7.params.toList args.toList ds p := hA0
  rw [Tryz.params7] at hA hval
  obtain ⟨v0, vs0, d0, ds0, p0, q0, hargs, rfl, rfl, h0, r0⟩ := trodAll_cons hA
  obtain ⟨v1, vs1, d1, ds1, p1, q1, rfl, rfl, rfl, h1, r1⟩ := trodAll_cons r0
  obtain ⟨rfl, rfl, rfl⟩ := trodAll_nil r1
  obtain rfl : args = #[v0, v1] := by cases args; simp_all
  obtain ⟨rfl, rfl⟩ := trodVars_none hV
  obtain ⟨t0, u0, rfl, hk0, ok0, hc0⟩ := Uje (hval 0 26 v0 rfl rfl) h0
  obtain ⟨z1, rfl, rfl, rfl, wz1⟩ := Go.ChangeShapes.open_int Tryz.underlying5 (hval 1 5 v1 rfl rfl) h1
  clear hA0
  have hn0 : count t0 ≤ 1048576 := by
    have hb := Web _ d0 (by simp : d0 ∈ [d0, .lit (.int .u8 z1)] ++ ([] : List (DataW H)))
    have hbulk : bulkAll ([d0, .lit (.int .u8 z1)] ++ ([] : List (DataW H))) ≤ 1048576 := hbulk
    omega
  have hl := Jwd hL
  have hx := Jxd hL
  have walk : Ret PP 7 #[ndV t0 u0, .int .u8 z1] W fun v w' => v = .bool true ∧ G W w' := Qhd t0 z1 _ _ W (u8_c wz1) (LaidW.mk' hl hx (Jyd hL) (Uhe hl)) hk0 hn0
  refine Calls.mono walk fun e W' ⟨v, he, hv, hg⟩ => ?_
  subst he hv
  have hb : Below W.heap.size W W' := hg
  have k0 := Go.RowKit.Below.trod Wte Zze (Nat.blt_eq.mp rowed26) h0 hb (fun x hx => hlt x (by simp [hx]))
  have k1 := Go.RowKit.Below.trod Wte Qge (Nat.blt_eq.mp rowed5) h1 hb (fun x hx => absurd hx (by simp))
  refine ⟨_, rfl, _, _, _, [], p0 ++ ([] ++ ([])), [], hW', ?_, ?_, rfl, hb.frame _, fun h => by cases h⟩
  · exact trodAll_cons_mk (shut_bool Tryz.underlying4 _) trodAll_mk0
  · exact trodAll_cons_mk k0 (trodAll_cons_mk k1 (trodAll_mk0))
theorem Qhe (os : Os) : laidMet Tryz.prog laidL ((laidWorld os).forCall (fun _ _ => 0) ⟨#[], #[.agg #[.int .i64 0, .string ⟨#[]⟩, .int .i64 0, .int .i64 0, .slice none 0 0, .int .i64 0, .string ⟨#[]⟩, .int .i64 0, .int .i64 0], .int .u8 0], []⟩).memory :=
  laidMet_of_run' 8 (by kernel_rfl) (by kernel_rfl)
theorem reads (os : Os) {H : Type} (enc : TypeId × Value → H) : ∃ places, DataW.whole enc Tryz.prog ((laidWorld os).forCall (fun _ _ => 0) ⟨#[], #[.agg #[.int .i64 0, .string ⟨#[]⟩, .int .i64 0, .int .i64 0, .slice none 0 0, .int .i64 0, .string ⟨#[]⟩, .int .i64 0, .int .i64 0], .int .u8 0], []⟩).memory Tryz.f7.params.toList Rows.checkUnusedSpec.vars false (#[.agg #[.int .i64 0, .string ⟨#[]⟩, .int .i64 0, .int .i64 0, .slice none 0 0, .int .i64 0, .string ⟨#[]⟩, .int .i64 0, .int .i64 0], .int .u8 0] : Array Value).toList 8 = some ([.agg [.lit (.int .i64 0), .lit (.string []), .lit (.int .i64 0), .lit (.int .i64 0), .nil, .agg [.lit (.int .i64 0), .lit (.string [])], .lit (.int .i64 0), .lit (.int .i64 0)], .lit (.int .u8 0)], [], places) :=
  ⟨[], by kernel_rfl⟩
set_option maxRecDepth 100000 in
theorem Weg (os : Os) (started : os.Started) (H : Type) (enc : TypeId × Value → H) (F : Stop.Interp) :
    ReturnsInHanded {} Tryz.checked os 7 .any ((Rows.OpenSpec.upto Rows.checkUnusedSpec).preRow enc Tryz.prog Tryz.f7 Rows.checkUnusedUptoRow.domain false Rows.checkUnusedUptoRow.laid) (((Rows.OpenSpec.upto Rows.checkUnusedSpec).at F).post enc Tryz.prog Tryz.f7 false true false false) := by
  obtain ⟨places, hx⟩ := reads os enc
  refine returnsInHanded_of_row (C := Tryz.checked) (s := (Rows.OpenSpec.upto Rows.checkUnusedSpec)) own started (by kernel_rfl) Tryz.func7
    (witness_row_atRef (enc := enc) (C := Tryz.checked) false (laidWorld os) #[.agg #[.int .i64 0, .string ⟨#[]⟩, .int .i64 0, .int .i64 0, .slice none 0 0, .int .i64 0, .string ⟨#[]⟩, .int .i64 0, .int .i64 0], .int .u8 0] rfl (by kernel_rfl) (by kernel_rfl) (by kernel_rfl)
      (OpenSpec.preRow_of_cond 8 hx (by kernel_rfl) (fun k hk => by cases hk; kernel_rfl) (by kernel_rfl) (Qhe os))) ?_
  intro W base args ds gs before hval hW _ hcond _ hL _ _
  have hb : Rows.uptoSmall H (ds ++ gs) = true := hcond _ rfl
  exact Zbc H enc W base args ds gs before hval hW (Wrg hb) hL
theorem said : Rows.CheckUnusedUptoSaid :=
  OpenClaim.holds_of_cond 7 Tryz.f7 rfl rfl rfl rfl rfl rfl rfl ⟨rfl, rfl, rfl, rfl, rfl⟩ rfl rfl rfl rfl rfl (by kernel_rfl) Tryz.func7 (by kernel_rfl)
    (Wrg (by kernel_rfl)) (by unfold Func.isWrapper; first | (rw [if_pos (by decide +kernel)]; kernel_rfl) | (rw [if_neg (by decide +kernel)]; exact ⟨rfl, rfl⟩))
    (fun os started H enc _ F => by rw [OpenClaim.pre_eq_preRow]; exact Weg os started H enc F)
theorem Zed (f : FuncId) (fn : Func) (hf : Tryz.pinned.checked.prog.funcNamed Rows.checkUnusedUptoRow.func = some f) (hfn : Tryz.pinned.checked.prog.funcs[f]? = some fn) :
    true = Tryz.pinned.checked.prog.looks [] ∧ ∀ (j : Nat) t, fn.params[j]? = some t → Tryz.pinned.checked.prog.wantsStandIn t = false := by
  obtain rfl : f = 7 := Option.some.inj ((show Tryz.prog.funcNamed Rows.checkUnusedUptoRow.func = some 7 by kernel_rfl).symm.trans hf) |>.symm
  obtain rfl : fn = Tryz.f7 := (Option.some.inj (Tryz.func7.symm.trans hfn)).symm
  refine ⟨by kernel_rfl, fun j t ht => ?_⟩
  rw [Tryz.params7] at ht
  have ht : t = 26 ∨ t = 5 := by simpa using Array.mem_of_getElem? ht
  rcases ht with rfl | rfl
  · exact (show Tryz.prog.wantsStandIn 26 = false by kernel_rfl)
  · exact (show Tryz.prog.wantsStandIn 5 = false by kernel_rfl)
theorem card : Rows.CheckUnusedUptoCardSaid :=
  Claim7.holds_tied_plain_at .later [] _ _ _ _ said (fun _ h => by cases h) (by kernel_rfl) (fun _ h => by cases h) checkUnusedUpto_row_tie rfl ⟨rfl, rfl⟩ (by kernel_rfl) rfl Zed (by kernel_rfl)
end checkUnused
end Go.Proofs.YtmpfjifhkmdbaaaGreatDoor
