/- CheckOrder, where what it reads is of bulk at most 1048576: for every input it returns true, and the input reads as it did. Conditions: none beyond the card. -/
import Derived.Test.YtmpfjifhkmdbaaaGreatDoorG04
import Derived.Test.YtmpfjifhkmdbaaaGreatDoorG07
import Derived.Carry
namespace Go.Proofs.YtmpfjifhkmdbaaaGreatDoor
open Go Go.RowKit Go.ChangeShapes Go.WideShapes Go.ChangeAt Go.Rk
namespace checkOrder
theorem Yod : laidOutB PP = true := by kernel_rfl
theorem Qqc : PP.readableRec 5 = true := by kernel_rfl
theorem rowed5 : Nat.blt 5 PP.types.size = true := by kernel_rfl
theorem Qzd : PP.readableRec 26 = true := by kernel_rfl
theorem rowed26 : Nat.blt 26 PP.types.size = true := by kernel_rfl
set_option maxRecDepth 100000 in
theorem Jab (H : Type) (enc : TypeId × Value → H) (W : World) (base : Nat) (args : Array Value) (ds gs : List (DataW H)) (before : List MemPlace)
    (hval : ∀ (j : Nat) t v, Tryz.f9.params[j]? = some t → args[j]? = some v → Value.okWide Tryz.prog W .any base t v)
    (hW : DataW.Whole enc Tryz.prog Tryz.f9.params.toList Rows.checkOrderSpec.vars false W args.toList ds gs before) (hbulk : Rows.uptoBulkAll (ds ++ gs) ≤ 1048576) (hL : laidMetH Tryz.prog Rows.checkOrderUptoRow.laid W) :
    Calls Tryz.prog 9 args W fun e W' => ∃ v, e = .returned v ∧ Rows.checkOrderSpec.post enc Tryz.prog Tryz.f9 false true false false W args v W' := by
  have hW' := hW
  have hlt := hW.lt
  obtain ⟨p, q, hA0, hV, rfl, hfz, hnd⟩ := hW
  have hA : DataW.TrodAll enc Tryz.prog W 0 (fun _ => true) true Tryz.f9.params.toList args.toList ds p := hA0
  rw [Tryz.params9] at hA hval
  obtain ⟨v0, vs0, d0, ds0, p0, q0, hargs, rfl, rfl, h0, r0⟩ := trodAll_cons hA
  obtain ⟨v1, vs1, d1, ds1, p1, q1, rfl, rfl, rfl, h1, r1⟩ := trodAll_cons r0
  obtain ⟨v2, vs2, d2, ds2, p2, q2, rfl, rfl, rfl, h2, r2⟩ := trodAll_cons r1
  obtain ⟨rfl, rfl, rfl⟩ := trodAll_nil r2
  obtain rfl : args = #[v0, v1, v2] := by cases args; simp_all
  obtain ⟨rfl, rfl⟩ := trodVars_none hV
  obtain ⟨t0, u0, rfl, hk0, ok0, hc0⟩ := Xye (hval 0 26 v0 rfl rfl) h0
  obtain ⟨z1, rfl, rfl, rfl, wz1⟩ := Go.ChangeShapes.open_int Tryz.underlying5 (hval 1 5 v1 rfl rfl) h1
  obtain ⟨z2, rfl, rfl, rfl, wz2⟩ := Go.ChangeShapes.open_int Tryz.underlying5 (hval 2 5 v2 rfl rfl) h2
  clear hA0
  have hn0 : count t0 ≤ 1048576 := by
    have hb := Xmb _ d0 (by simp : d0 ∈ [d0, .lit (.int .u8 z1), .lit (.int .u8 z2)] ++ ([] : List (DataW H)))
    have hbulk : bulkAll ([d0, .lit (.int .u8 z1), .lit (.int .u8 z2)] ++ ([] : List (DataW H))) ≤ 1048576 := hbulk
    omega
  have hl := Uwd hL
  have hx := Uxd hL
  have walk : Ret PP 9 #[ndV t0 u0, .int .u8 z1, .int .u8 z2] W fun v w' => v = .bool true ∧ G W w' := Qyd t0 z1 z2 _ _ W (u8_c wz1) (u8_c wz2) (LaidW.mk' hl hx (Uyd hL) (Xwe hl)) hk0 hn0
  refine Calls.mono walk fun e W' ⟨v, he, hv, hg⟩ => ?_
  subst he hv
  have hb : Below W.heap.size W W' := hg
  have k0 := Go.RowKit.Below.trod Yod Qzd (Nat.blt_eq.mp rowed26) h0 hb (fun x hx => hlt x (by simp [hx]))
  have k1 := Go.RowKit.Below.trod Yod Qqc (Nat.blt_eq.mp rowed5) h1 hb (fun x hx => absurd hx (by simp))
  have k2 := Go.RowKit.Below.trod Yod Qqc (Nat.blt_eq.mp rowed5) h2 hb (fun x hx => absurd hx (by simp))
  refine ⟨_, rfl, _, _, _, [], p0 ++ ([] ++ ([] ++ ([]))), [], hW', ?_, ?_, rfl, hb.frame _, fun h => by cases h⟩
  · exact trodAll_cons_mk (shut_bool Tryz.underlying4 _) trodAll_mk0
  · exact trodAll_cons_mk k0 (trodAll_cons_mk k1 (trodAll_cons_mk k2 (trodAll_mk0)))
theorem Wve (os : Os) : laidMet Tryz.prog laidL ((laidWorld os).forCall (fun _ _ => 0) ⟨#[], #[.agg #[.int .i64 0, .string ⟨#[]⟩, .int .i64 0, .int .i64 0, .slice none 0 0, .int .i64 0, .string ⟨#[]⟩, .int .i64 0, .int .i64 0], .int .u8 0, .int .u8 0], []⟩).memory :=
  laidMet_of_run' 8 (by kernel_rfl) (by kernel_rfl)
theorem reads (os : Os) {H : Type} (enc : TypeId × Value → H) : ∃ places, DataW.whole enc Tryz.prog ((laidWorld os).forCall (fun _ _ => 0) ⟨#[], #[.agg #[.int .i64 0, .string ⟨#[]⟩, .int .i64 0, .int .i64 0, .slice none 0 0, .int .i64 0, .string ⟨#[]⟩, .int .i64 0, .int .i64 0], .int .u8 0, .int .u8 0], []⟩).memory Tryz.f9.params.toList Rows.checkOrderSpec.vars false (#[.agg #[.int .i64 0, .string ⟨#[]⟩, .int .i64 0, .int .i64 0, .slice none 0 0, .int .i64 0, .string ⟨#[]⟩, .int .i64 0, .int .i64 0], .int .u8 0, .int .u8 0] : Array Value).toList 8 = some ([.agg [.lit (.int .i64 0), .lit (.string []), .lit (.int .i64 0), .lit (.int .i64 0), .nil, .agg [.lit (.int .i64 0), .lit (.string [])], .lit (.int .i64 0), .lit (.int .i64 0)], .lit (.int .u8 0), .lit (.int .u8 0)], [], places) :=
  ⟨[], by kernel_rfl⟩
set_option maxRecDepth 100000 in
theorem Zrg (os : Os) (started : os.Started) (H : Type) (enc : TypeId × Value → H) (F : Stop.Interp) :
    ReturnsInHanded {} Tryz.checked os 9 .any ((Rows.OpenSpec.upto Rows.checkOrderSpec).preRow enc Tryz.prog Tryz.f9 Rows.checkOrderUptoRow.domain false Rows.checkOrderUptoRow.laid) (((Rows.OpenSpec.upto Rows.checkOrderSpec).at F).post enc Tryz.prog Tryz.f9 false true false false) := by
  obtain ⟨places, hx⟩ := reads os enc
  refine returnsInHanded_of_row (C := Tryz.checked) (s := (Rows.OpenSpec.upto Rows.checkOrderSpec)) own started (by kernel_rfl) Tryz.func9
    (witness_row_atRef (enc := enc) (C := Tryz.checked) false (laidWorld os) #[.agg #[.int .i64 0, .string ⟨#[]⟩, .int .i64 0, .int .i64 0, .slice none 0 0, .int .i64 0, .string ⟨#[]⟩, .int .i64 0, .int .i64 0], .int .u8 0, .int .u8 0] rfl (by kernel_rfl) (by kernel_rfl) (by kernel_rfl)
      (OpenSpec.preRow_of_cond 8 hx (by kernel_rfl) (fun k hk => by cases hk; kernel_rfl) (by kernel_rfl) (Wve os))) ?_
  intro W base args ds gs before hval hW _ hcond _ hL _ _
  have hb : Rows.uptoSmall H (ds ++ gs) = true := hcond _ rfl
  exact Jab H enc W base args ds gs before hval hW (Yeg hb) hL
theorem said : Rows.CheckOrderUptoSaid :=
  OpenClaim.holds_of_cond 9 Tryz.f9 rfl rfl rfl rfl rfl rfl rfl ⟨rfl, rfl, rfl, rfl, rfl⟩ rfl rfl rfl rfl rfl (by kernel_rfl) Tryz.func9 (by kernel_rfl)
    (Yeg (by kernel_rfl)) (by unfold Func.isWrapper; first | (rw [if_pos (by decide +kernel)]; kernel_rfl) | (rw [if_neg (by decide +kernel)]; exact ⟨rfl, rfl⟩))
    (fun os started H enc _ F => by rw [OpenClaim.pre_eq_preRow]; exact Zrg os started H enc F)
theorem Qrc (f : FuncId) (fn : Func) (hf : Tryz.pinned.checked.prog.funcNamed Rows.checkOrderUptoRow.func = some f) (hfn : Tryz.pinned.checked.prog.funcs[f]? = some fn) :
    true = Tryz.pinned.checked.prog.looks [] ∧ ∀ (j : Nat) t, fn.params[j]? = some t → Tryz.pinned.checked.prog.wantsStandIn t = false := by
  obtain rfl : f = 9 := Option.some.inj ((show Tryz.prog.funcNamed Rows.checkOrderUptoRow.func = some 9 by kernel_rfl).symm.trans hf) |>.symm
  obtain rfl : fn = Tryz.f9 := (Option.some.inj (Tryz.func9.symm.trans hfn)).symm
  refine ⟨by kernel_rfl, fun j t ht => ?_⟩
  rw [Tryz.params9] at ht
  have ht : t = 26 ∨ t = 5 ∨ t = 5 := by simpa using Array.mem_of_getElem? ht
  rcases ht with rfl | rfl | rfl
  · exact (show Tryz.prog.wantsStandIn 26 = false by kernel_rfl)
  · exact (show Tryz.prog.wantsStandIn 5 = false by kernel_rfl)
  · exact (show Tryz.prog.wantsStandIn 5 = false by kernel_rfl)
theorem card : Rows.CheckOrderUptoCardSaid :=
  Claim7.holds_tied_plain_at .later [] _ _ _ _ said (fun _ h => by cases h) (by kernel_rfl) (fun _ h => by cases h) checkOrderUpto_row_tie rfl ⟨rfl, rfl⟩ (by kernel_rfl) rfl Qrc (by kernel_rfl)
end checkOrder
end Go.Proofs.YtmpfjifhkmdbaaaGreatDoor
