/- SyntaxText, where what it reads is of bulk at most 1048576: for every input it returns true, and the input reads as it did. Conditions: none beyond the card. -/
import Derived.Test.YteicjpedahoilaaGreatDoorE04
import Derived.Test.YteicjpedahoilaaGreatDoorE14
import Derived.Carry
namespace Go.Proofs.YteicjpedahoilaaGreatDoor
open Go Go.RowKit Go.ChangeShapes Go.WideShapes Go.ChangeAt Go.Rk
namespace syntaxText
theorem laidOut : laidOutB PP = true := by kernel_rfl
theorem laid_pow {W : World} (h : laidMetH PP laidL W) : TabP W := by
 have h0 : laidMet PP laidL W := h
 have h1 := h0.tail.tail
 have e : (Rows.laid_internal_strconv_uint64pow10 : DataW Unit) = Lib.tabData .u64 Lib.pow10Tab := by kernel_rfl
 rw [e] at h1
 exact Lib.tabIs_of_head (g := 1) (t := 157) (e := 124) (n := 20) (by kernel_rfl) (by kernel_rfl) (by kernel_rfl) (by kernel_rfl) (by kernel_rfl) (by kernel_rfl) h1
theorem readable26 : PP.readableRec 26 = true := by kernel_rfl
theorem rowed26 : Nat.blt 26 PP.types.size = true := by kernel_rfl
set_option maxRecDepth 100000 in
theorem Wba (H : Type) (enc : TypeId × Value → H) (W : World) (base : Nat) (args : Array Value) (ds gs : List (DataW H)) (before : List MemPlace)
  (hval : ∀ (j : Nat) t v, Tryz.f6.params[j]? = some t → args[j]? = some v → Value.okWide Tryz.prog W .any base t v)
  (hW : DataW.Whole enc Tryz.prog Tryz.f6.params.toList Rows.syntaxTextSpec.vars false W args.toList ds gs before) (hbulk : Rows.uptoBulkAll (ds ++ gs) ≤ 1048576) (hL : laidMetH Tryz.prog Rows.syntaxTextUptoRow.laid W) :
  Calls Tryz.prog 6 args W fun e W' => ∃ v, e = .returned v ∧ Rows.syntaxTextSpec.post enc Tryz.prog Tryz.f6 false true false false W args v W' := by
 have hW' := hW
 have hlt := hW.lt
 obtain ⟨p, q, hA0, hV, rfl, hfz, hnd⟩ := hW
 have hA : DataW.TrodAll enc Tryz.prog W 0 (fun _ => true) true Tryz.f6.params.toList args.toList ds p := hA0
 rw [Tryz.params6] at hA hval
 obtain ⟨v0, vs0, d0, ds0, p0, q0, hargs, rfl, rfl, h0, r0⟩ := trodAll_cons hA
 obtain ⟨v1, vs1, d1, ds1, p1, q1, rfl, rfl, rfl, h1, r1⟩ := trodAll_cons r0
 obtain ⟨rfl, rfl, rfl⟩ := trodAll_nil r1
 obtain rfl : args = #[v0, v1] := by cases args; simp_all
 obtain ⟨rfl, rfl⟩ := trodVars_none hV
 obtain ⟨t0, u0, rfl, hk0, ok0, hc0⟩ := Ydc (hval 0 26 v0 rfl rfl) h0
 obtain ⟨t1, u1, rfl, hk1, ok1, hc1⟩ := Ydc (hval 1 26 v1 rfl rfl) h1
 clear hA0
 have hn0 : weight t0 ≤ 1048576 := by
  have hb := Wqa _ d0 (by simp : d0 ∈ [d0, d1] ++ ([] : List (DataW H)))
  have hbulk : bulkAll ([d0, d1] ++ ([] : List (DataW H))) ≤ 1048576 := hbulk
  omega
 have hn1 : weight t1 ≤ 1048576 := by
  have hb := Wqa _ d1 (by simp : d1 ∈ [d0, d1] ++ ([] : List (DataW H)))
  have hbulk : bulkAll ([d0, d1] ++ ([] : List (DataW H))) ≤ 1048576 := hbulk
  omega
 have hl := laid_cells hL
 have walk : Ret PP 6 #[ndV t0 u0, ndV t1 u1] W fun v w' => v = .bool true ∧ G W w' := stext_law t0 t1 u0 u1 _ _ W hl (laid_size hl) (laid_pow hL) hk0 hk1 ok0 ok1 hn0 hn1
 refine Calls.mono walk fun e W' ⟨v, he, hv, hg⟩ => ?_
 subst he hv
 have hb : Below W.heap.size W W' := hg
 have k0 := Go.RowKit.Below.trod laidOut readable26 (Nat.blt_eq.mp rowed26) h0 hb (fun x hx => hlt x (by simp [hx]))
 have k1 := Go.RowKit.Below.trod laidOut readable26 (Nat.blt_eq.mp rowed26) h1 hb (fun x hx => hlt x (by simp [hx]))
 refine ⟨_, rfl, _, _, _, [], p0 ++ (p1 ++ ([])), [], hW', ?_, ?_, rfl, hb.frame _, fun h => by cases h⟩
 ·exact trodAll_cons_mk (shut_bool Tryz.underlying4 _) trodAll_mk0
 ·exact trodAll_cons_mk k0 (trodAll_cons_mk k1 (trodAll_mk0))
theorem laid_met2 (os : Os) : laidMet Tryz.prog laidL ((laidWorld os).forCall (fun _ _ => 0) ⟨#[], #[.agg #[.int .i64 0, .string ⟨#[]⟩, .int .i64 0, .int .i64 0, .slice none 0 0, .int .i64 0, .string ⟨#[]⟩, .int .i64 0, .int .i64 0], .agg #[.int .i64 0, .string ⟨#[]⟩, .int .i64 0, .int .i64 0, .slice none 0 0, .int .i64 0, .string ⟨#[]⟩, .int .i64 0, .int .i64 0]], []⟩).memory :=
 laidMet_of_run' 8 (by kernel_rfl) (by kernel_rfl)
theorem reads (os : Os) {H : Type} (enc : TypeId × Value → H) : ∃ places, DataW.whole enc Tryz.prog ((laidWorld os).forCall (fun _ _ => 0) ⟨#[], #[.agg #[.int .i64 0, .string ⟨#[]⟩, .int .i64 0, .int .i64 0, .slice none 0 0, .int .i64 0, .string ⟨#[]⟩, .int .i64 0, .int .i64 0], .agg #[.int .i64 0, .string ⟨#[]⟩, .int .i64 0, .int .i64 0, .slice none 0 0, .int .i64 0, .string ⟨#[]⟩, .int .i64 0, .int .i64 0]], []⟩).memory Tryz.f6.params.toList Rows.syntaxTextSpec.vars false (#[.agg #[.int .i64 0, .string ⟨#[]⟩, .int .i64 0, .int .i64 0, .slice none 0 0, .int .i64 0, .string ⟨#[]⟩, .int .i64 0, .int .i64 0], .agg #[.int .i64 0, .string ⟨#[]⟩, .int .i64 0, .int .i64 0, .slice none 0 0, .int .i64 0, .string ⟨#[]⟩, .int .i64 0, .int .i64 0]] : Array Value).toList 8 = some ([.agg [.lit (.int .i64 0), .lit (.string []), .lit (.int .i64 0), .lit (.int .i64 0), .nil, .agg [.lit (.int .i64 0), .lit (.string [])], .lit (.int .i64 0), .lit (.int .i64 0)], .agg [.lit (.int .i64 0), .lit (.string []), .lit (.int .i64 0), .lit (.int .i64 0), .nil, .agg [.lit (.int .i64 0), .lit (.string [])], .lit (.int .i64 0), .lit (.int .i64 0)]], [], places) :=
 ⟨[], by kernel_rfl⟩
set_option maxRecDepth 100000 in
theorem lifted (os : Os) (started : os.Started) (H : Type) (enc : TypeId × Value → H) (F : Stop.Interp) :
  ReturnsInHanded {} Tryz.checked os 6 .any ((Rows.OpenSpec.upto Rows.syntaxTextSpec).preRow enc Tryz.prog Tryz.f6 Rows.syntaxTextUptoRow.domain false Rows.syntaxTextUptoRow.laid) (((Rows.OpenSpec.upto Rows.syntaxTextSpec).at F).post enc Tryz.prog Tryz.f6 false true false false) := by
 obtain ⟨places, hx⟩ := reads os enc
 refine returnsInHanded_of_row (C := Tryz.checked) (s := (Rows.OpenSpec.upto Rows.syntaxTextSpec)) own started (by kernel_rfl) Tryz.func6
  (witness_row_atRef (enc := enc) (C := Tryz.checked) false (laidWorld os) #[.agg #[.int .i64 0, .string ⟨#[]⟩, .int .i64 0, .int .i64 0, .slice none 0 0, .int .i64 0, .string ⟨#[]⟩, .int .i64 0, .int .i64 0], .agg #[.int .i64 0, .string ⟨#[]⟩, .int .i64 0, .int .i64 0, .slice none 0 0, .int .i64 0, .string ⟨#[]⟩, .int .i64 0, .int .i64 0]] rfl (by kernel_rfl) (by kernel_rfl) (by kernel_rfl)
   (OpenSpec.preRow_of_cond 8 hx (by kernel_rfl) (fun k hk => by cases hk; kernel_rfl) (by kernel_rfl) (laid_met2 os))) ?_
 intro W base args ds gs before hval hW _ hcond _ hL _ _
 have hb : Rows.uptoSmall H (ds ++ gs) = true := hcond _ rfl
 exact Wba H enc W base args ds gs before hval hW (of_decide_eq_true hb) hL
theorem said : Rows.SyntaxTextUptoSaid :=
 OpenClaim.holds_of_cond 6 Tryz.f6 rfl rfl rfl rfl rfl rfl rfl ⟨rfl, rfl, rfl, rfl, rfl⟩ rfl rfl rfl rfl rfl (by kernel_rfl) Tryz.func6 (by kernel_rfl)
  (of_decide_eq_true (by kernel_rfl)) (by unfold Func.isWrapper; first | (rw [if_pos (by decide +kernel)]; kernel_rfl) | (rw [if_neg (by decide +kernel)]; exact ⟨rfl, rfl⟩))
  (fun os started H enc _ F => by rw [OpenClaim.pre_eq_preRow]; exact lifted os started H enc F)
theorem plain (f : FuncId) (fn : Func) (hf : Tryz.pinned.checked.prog.funcNamed Rows.syntaxTextUptoRow.func = some f) (hfn : Tryz.pinned.checked.prog.funcs[f]? = some fn) :
  true = Tryz.pinned.checked.prog.looks [] ∧ ∀ (j : Nat) t, fn.params[j]? = some t → Tryz.pinned.checked.prog.wantsStandIn t = false := by
 obtain rfl : f = 6 := Option.some.inj ((show Tryz.prog.funcNamed Rows.syntaxTextUptoRow.func = some 6 by kernel_rfl).symm.trans hf) |>.symm
 obtain rfl : fn = Tryz.f6 := (Option.some.inj (Tryz.func6.symm.trans hfn)).symm
 refine ⟨by kernel_rfl, fun j t ht => ?_⟩
 rw [Tryz.params6] at ht
 obtain rfl : t = 26 := by simpa using Array.mem_of_getElem? ht
 exact (show Tryz.prog.wantsStandIn 26 = false by kernel_rfl)
theorem card : Rows.SyntaxTextUptoCardSaid :=
 Claim7.holds_tied_plain_at .later [] _ _ _ _ said (fun _ h => by cases h) (by kernel_rfl) (fun _ h => by cases h) syntaxTextUpto_row_tie rfl ⟨rfl, rfl⟩ (by kernel_rfl) rfl plain (by kernel_rfl)
end syntaxText
end Go.Proofs.YteicjpedahoilaaGreatDoor
