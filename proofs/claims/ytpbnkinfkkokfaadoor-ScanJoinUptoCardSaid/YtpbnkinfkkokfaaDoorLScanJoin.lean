/- ScanJoin, where what it reads is of bulk at most 1048576: it returns true, and the input reads as it did. Conditions: none beyond the card. -/
import Derived.Test.YtpbnkinfkkokfaaDoorScanY
import Derived.Test.YtpbnkinfkkokfaaDoorScanJv
import Derived.Test.YtpbnkinfkkokfaaDoorScanJz
import Derived.Carry
namespace Go.Proofs.YtpbnkinfkkokfaaDoor
open Go Go.RowKit Go.ChangeShapes Go.WideShapes Go.ChangeAt Go.Rk
namespace scanJoin
theorem laidOut : laidOutB PP = true := by kernel_rfl
theorem readable : PP.readableRec 23 = true := by kernel_rfl
theorem rowed : Nat.blt 23 PP.types.size = true := by kernel_rfl
/-- For every argument and every world that holds the listed variables. -/
theorem contract (H : Type) (enc : TypeId × Value → H) (W : World) (base : Nat) (args : Array Value) (ds gs : List (DataW H)) (before : List MemPlace)
    (hval : ∀ (j : Nat) t v, Tryd.f7.params[j]? = some t → args[j]? = some v → Value.okWide Tryd.prog W .any base t v)
    (hW : DataW.Whole enc Tryd.prog Tryd.f7.params.toList Rows.scanJoinSpec.vars false W args.toList ds gs before) (hbulk : Rows.uptoBulkAll (ds ++ gs) ≤ 1048576) (hL : laidMetH Tryd.prog Rows.scanJoinUptoRow.laid W) :
    Calls Tryd.prog 7 args W fun e W' => ∃ v, e = .returned v ∧ Rows.scanJoinSpec.post enc Tryd.prog Tryd.f7 false true false false W args v W' := by
  have hW' := hW
  have hlt := hW.lt
  obtain ⟨p, q, hA0, hV, rfl, hfz, hnd⟩ := hW
  have hA : DataW.TrodAll enc Tryd.prog W 0 (fun _ => true) true Tryd.f7.params.toList args.toList ds p := hA0
  rw [Tryd.params7] at hA hval
  obtain ⟨v0, vs0, d0, ds0, p0, q0, hargs, rfl, rfl, h0, r0⟩ := trodAll_cons hA
  obtain ⟨v1, vs1, d1, ds1, p1, q1, rfl, rfl, rfl, h1, r1⟩ := trodAll_cons r0
  obtain ⟨rfl, rfl, rfl⟩ := trodAll_nil r1
  obtain rfl : args = #[v0, v1] := by cases args; simp_all
  obtain ⟨rfl, rfl⟩ := trodVars_none hV
  obtain ⟨s1, rfl, rfl, rfl, ws1⟩ := Go.ChangeMaps.open_string Tryd.underlying9 (hval 1 9 v1 rfl rfl) h1
  obtain ⟨a, len, cap, rfl⟩ := okWide_slice und23 (hval 0 23 v0 rfl rfl)
  have h0' := h0
  obtain ⟨fuel, hf⟩ := h0'
  obtain ⟨l, v, hv, hR, hjl⟩ := open_toks hf
  injection hv with hv _
  subst hv
  clear hA0
  simp only [List.append_nil] at hW' hbulk hlt
  have hj : jl l ≤ 1048576 := by
    simp only [Rows.uptoBulkAll] at hbulk
    have hjl : jl l ≤ Rows.uptoBulk d0 := hjl
    omega
  have hl := laid_cells hL
  have walk : Ret PP 7 #[.slice a len cap, .string s1] W fun v w' => v = .bool true ∧ G W w' := join_law l (.slice a len cap) s1.data.toList W hl (laid_size hl) hR hj
  refine Calls.mono walk fun e W' ⟨v, he, hv, hg⟩ => ?_
  subst he hv
  have hb : Below W.heap.size W W' := hg
  refine ⟨_, rfl, _, _, _, [], p0, [], hW', ?_, ?_, rfl, hb.frame _, fun h => by cases h⟩
  · exact trodAll_cons_mk (shut_bool Tryd.underlying4 _) trodAll_mk0
  · have k0 := Go.RowKit.Below.trod laidOut readable (Nat.blt_eq.mp rowed) h0 hb (fun x hx => hlt x (by simp [hx]))
    have := trodAll_cons_mk k0 (trodAll_cons_mk (Go.ChangeMaps.shut_string (enc := enc) (P := PP) (w := W') (base := 0) (sp := fun b => decide (b < W.heap.size)) (held := true) Tryd.underlying9 ws1) trodAll_mk0)
    rw [show p0 ++ ([] ++ []) = p0 by simp] at this
    exact this
theorem laid_met2 (os : Os) : laidMet Tryd.prog laidL ((laidWorld os).forCall (fun _ _ => 0) ⟨#[], #[.slice none 0 0, .string ⟨#[]⟩], []⟩).memory :=
  laidMet_of_run' 8 (by kernel_rfl) (by kernel_rfl)
theorem reads (os : Os) {H : Type} (enc : TypeId × Value → H) : ∃ places, DataW.whole enc Tryd.prog ((laidWorld os).forCall (fun _ _ => 0) ⟨#[], #[.slice none 0 0, .string ⟨#[]⟩], []⟩).memory Tryd.f7.params.toList Rows.scanJoinSpec.vars false (#[.slice none 0 0, .string ⟨#[]⟩] : Array Value).toList 8 = some ([.nil, .lit (.string [])], [], places) :=
  ⟨[], by kernel_rfl⟩
set_option maxRecDepth 100000 in
theorem lifted (os : Os) (started : os.Started) (H : Type) (enc : TypeId × Value → H) (F : Stop.Interp) :
    ReturnsInHanded {} Tryd.checked os 7 .any ((Rows.OpenSpec.upto Rows.scanJoinSpec).preRow enc Tryd.prog Tryd.f7 Rows.scanJoinUptoRow.domain false Rows.scanJoinUptoRow.laid) (((Rows.OpenSpec.upto Rows.scanJoinSpec).at F).post enc Tryd.prog Tryd.f7 false true false false) := by
  obtain ⟨places, hx⟩ := reads os enc
  refine returnsInHanded_of_row (C := Tryd.checked) (s := Rows.OpenSpec.upto Rows.scanJoinSpec) own started (by kernel_rfl) Tryd.func7
    (witness_row_atRef (enc := enc) (C := Tryd.checked) false (laidWorld os) #[.slice none 0 0, .string ⟨#[]⟩] rfl (by kernel_rfl) (by kernel_rfl) (by kernel_rfl)
      (OpenSpec.preRow_of_cond 8 hx (by kernel_rfl) (fun k hk => by cases hk; kernel_rfl) (by kernel_rfl) (laid_met2 os))) ?_
  intro W base args ds gs before hval hW _ hcond _ hL _ _
  have hb : Rows.uptoSmall H (ds ++ gs) = true := hcond _ rfl
  exact contract H enc W base args ds gs before hval hW (of_decide_eq_true hb) hL
theorem said : Rows.ScanJoinUptoSaid :=
  OpenClaim.holds_of_cond 7 Tryd.f7 rfl rfl rfl rfl rfl rfl rfl ⟨rfl, rfl, rfl, rfl, rfl⟩ rfl rfl rfl rfl rfl (by kernel_rfl) Tryd.func7 (by kernel_rfl)
    (of_decide_eq_true (by kernel_rfl)) (by unfold Func.isWrapper; first | (rw [if_pos (by decide +kernel)]; kernel_rfl) | (rw [if_neg (by decide +kernel)]; exact ⟨rfl, rfl⟩))
    (fun os started H enc _ F => by rw [OpenClaim.pre_eq_preRow]; exact lifted os started H enc F)
theorem plain (f : FuncId) (fn : Func) (hf : Tryd.pinned.checked.prog.funcNamed Rows.scanJoinUptoRow.func = some f) (hfn : Tryd.pinned.checked.prog.funcs[f]? = some fn) :
    true = Tryd.pinned.checked.prog.looks [] ∧ ∀ (j : Nat) t, fn.params[j]? = some t → Tryd.pinned.checked.prog.wantsStandIn t = false := by
  obtain rfl : f = 7 := Option.some.inj ((show Tryd.prog.funcNamed Rows.scanJoinUptoRow.func = some 7 by kernel_rfl).symm.trans hf) |>.symm
  obtain rfl : fn = Tryd.f7 := (Option.some.inj (Tryd.func7.symm.trans hfn)).symm
  refine ⟨by kernel_rfl, fun j t ht => ?_⟩
  rw [Tryd.params7] at ht
  have ht : t = 23 ∨ t = 9 := by simpa using Array.mem_of_getElem? ht
  rcases ht with rfl | rfl
  · exact (show Tryd.prog.wantsStandIn 23 = false by kernel_rfl)
  · exact (show Tryd.prog.wantsStandIn 9 = false by kernel_rfl)
/-- THE CARD. -/
theorem card : Rows.ScanJoinUptoCardSaid :=
  Claim7.holds_tied_plain_at .later [] _ _ _ _ said (fun _ h => by cases h) (by kernel_rfl) (fun _ h => by cases h) scanJoinUpto_row_tie rfl ⟨rfl, rfl⟩ (by kernel_rfl) rfl plain (by kernel_rfl)
end scanJoin
end Go.Proofs.YtpbnkinfkkokfaaDoor
