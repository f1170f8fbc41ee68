/- Merged texts of one road: ScanD, LayP, ScanP, ScanE, ScanF, Str, Tree, Name, Post, Y, Rng, Wgt, Open, Fn, RowF. Conditions: each text's own. -/
import Derived.Test.YteicjpedahoilaaDoorB02
import Derived.Shelf.LaysC
import Derived.Shelf.Strconv.ParseIntPublic10
import Derived.Test.YteicjpedahoilaaDoorB01
import Derived.Lib.Builder
import Derived.Lib.AppendStr
import Derived.Lib.UnsafeStr
import Derived.Laws.Externs
import Derived.KernelRfl
import Derived.ChangeSame
import Derived.Below
import Derived.Test.YteicjpedahoilaaDoorCards
import Derived.Test.YteicjpedahoilaaDoorTie
import Derived.WalkKit
import Derived.ProofKit
import Derived.OpenShut
import Derived.Deep.DeepHandedRow
import Derived.Deep.DeepWitnessRowRef
import Derived.Lib.LaidTab
import Derived.Stop.LaidErr
import Derived.ShutString
import Derived.ChangeMaps5
import Derived.Test.YteicjpedahoilaaDoorRows
import Derived.Deep.Slices
import Derived.Carry
set_option linter.unusedSimpArgs false
set_option linter.unusedVariables false
namespace Go.Rk
open Go Go.RowKit
/-- How many bytes in a row satisfy a condition. -/
def runN (q : Int → Bool) : List UInt8 → Nat
  | [] => 0
  | c :: l => if q c.toNat = true then runN q l + 1 else 0
theorem runN_step {q : Int → Bool} {s : List UInt8} {k : Nat} (h : k < s.length) (hq : q (s.getD k 0).toNat = true) : runN q (s.drop k) = runN q (s.drop (k + 1)) + 1 := by
  rw [List.drop_eq_getElem_cons h, runN, if_pos (by simpa [List.getD_eq_getElem?_getD, List.getElem?_eq_getElem h] using hq)]
theorem runN_stop {q : Int → Bool} {s : List UInt8} {k : Nat} (h : k < s.length → q (s.getD k 0).toNat = false) : runN q (s.drop k) = 0 := by
  by_cases hk : k < s.length
  · rw [List.drop_eq_getElem_cons hk, runN, if_neg]
    have := h hk
    simp [List.getD_eq_getElem?_getD, List.getElem?_eq_getElem hk] at this
    simp [this]
  · rw [List.drop_of_length_le (by omega)]; rfl
theorem runN_le (q : Int → Bool) (l : List UInt8) : runN q l ≤ l.length := by
  induction l with
  | nil => exact Nat.le_refl _
  | cons c l ih => rw [runN]; split <;> simp <;> omega
theorem run_ok (base b : Nat) (s : List UInt8) (p : Nat) (ts cs : List Tok) (w : World) (hs : Scn base b s p ts cs w) (f : Nat) (q : Int → Bool) (hgo : goFn PP f = true) (hf : ∀ c w, Ret PP f #[.int .u8 c] w fun v w' => v = .bool (q c) ∧ G w w') :
    Ret PP fn_scan_scanner_run #[.pointer (some ⟨b, 0, none⟩), .func (.func f) #[] #[]] w fun v w' => v = .int .i64 (runN q (s.drop p)) ∧ G w w' := by
  obtain ⟨ta, tc, ca, cc, hs, k1, k2, k3, k4⟩ := hs.sa
  have g := G.refl w
  refine ret_of_sc (m := 36) func_scan_scanner_run rfl rfl [(0, True, _), (1, True, _)] (sub_cons rfl (sub_cons rfl (sub_nil _))) ?_
  refine sc_seq fun K1 hK1 => ?_
  refine sc_text [3] ?_
  refine sr_pu rfl (fun _ => rd_assign ev_c) ?_
  refine sr_nil (hK1 _ _ ?_)
  refine sc_seq fun K2 hK2 => ?_
  refine sc_text [3] ?_
  refine sr_pu rfl (fun _ => rd_assign ev_c) ?_
  refine sr_nil (hK2 _ _ ?_)
  refine sc_seq fun K3 hK3 => ?_
  refine sc_block ?_
  refine sc_loop (fun (n : Nat) u => p + n ≤ s.length ∧ runN q (s.drop p) = n + runN q (s.drop (p + n)) ∧ G w u) (fun n => [(0, True, .pointer (some ⟨b, 0, none⟩)), (1, True, .func (.func f) #[] #[]), (5, True, .int .i64 n)]) (fun n => s.length - n) 0 ⟨by omega, by simp, g⟩ (sub_cons rfl (sub_cons rfl (sub_cons rfl (sub_nil _)))) ?_
  rintro n u ⟨hn, he, g⟩
  refine sc_seq fun K4 hK4 => ?_
  refine sc_seq fun K5 hK5 => ?_
  refine sc_draw [3, 3, 3, 0, 3, 3, 3, 3, 3, 0, 3, 3, 3, 3, 3, 3, 3, 0, 3, 3, 3, 0, 3, 3, 3, 1, 3] [true, true, true, true, true, true, true, true, true, true, true, true, true, true, true, true, true, true, true, true, true, true, true, true, true, true, true] [0, 1, 3, 7, 0, 31, 0, 64, 192, 448, 960, 2047, 4095, 8191, 8191, 24575, 57343, 122879, 8191, 270335, 794623, 1843199, 8191, 8134655, 16769023, 33554431, 67108863] mix (by kernel_rfl) ?_
  have g := g.trans (G.drew _)
  refine sr_pu rfl (fun _ => rd_move (ev_t rfl)) ?_
  refine sr_pu rfl (fun _ => rd_nil (ev_t rfl)) ?_
  refine sr_pu rfl (fun _ => rd_field fo_scan_scanner_1 (ev_t rfl)) ?_
  refine sr_rd rfl (rd_load one_int (ev_t rfl) (fun _ => by first | exact (hs.grow g).B.at_ rfl)) ?_
  refine sr_pu rfl (fun _ => rd_move (ev_t rfl)) ?_
  refine sr_pu rfl (fun _ => rd_add (ev_t rfl) (ev_t rfl) (fun _ => by omega)) ?_
  refine sr_pu rfl (fun _ => rd_move (ev_t rfl)) ?_
  refine sr_pu rfl (fun _ => rd_nil (ev_t rfl)) ?_
  refine sr_pu rfl (fun _ => rd_field fo_scan_scanner_0 (ev_t rfl)) ?_
  refine sr_rd rfl (rd_load one_string (ev_t rfl) (fun _ => by first | exact (hs.grow g).B.at_ rfl)) ?_
  refine sr_pu rfl (fun _ => rd_slen str_string (ev_t rfl)) ?_
  refine sr_pu rfl (fun _ => rd_lt (ev_t rfl) (ev_t rfl)) ?_
  refine sr_pu rfl (fun _ => rd_move (ev_t rfl)) ?_
  refine sr_pug rfl rfl rfl (fun _ => rd_move (ev_t rfl)) ?_
  refine sr_pug rfl rfl rfl (fun _ => rd_move (ev_t rfl)) ?_
  refine sr_pug rfl rfl rfl (fun _ => rd_nil (ev_u rfl id)) ?_
  refine sr_pug rfl rfl rfl (fun _ => rd_field fo_scan_scanner_0 (ev_u rfl id)) ?_
  refine sr_rdg rfl rfl rfl (rd_load one_string (ev_u rfl id) (fun _ => by first | exact (hs.grow g).B.at_ rfl)) ?_
  refine sr_pug rfl rfl rfl (fun _ => rd_move (ev_t rfl)) ?_
  refine sr_pug rfl rfl rfl (fun _ => rd_nil (ev_u rfl id)) ?_
  refine sr_pug rfl rfl rfl (fun _ => rd_field fo_scan_scanner_1 (ev_u rfl id)) ?_
  refine sr_rdg rfl rfl rfl (rd_load one_int (ev_u rfl id) (fun _ => by first | exact (hs.grow g).B.at_ rfl)) ?_
  refine sr_pug rfl rfl rfl (fun _ => rd_move (ev_t rfl)) ?_
  refine sr_pug rfl rfl rfl (fun _ => rd_add (ev_u rfl id) (ev_u rfl id) (fun _ => by omega)) ?_
  refine sr_pug rfl rfl rfl (fun _ => rd_sidx str_string (ev_u rfl id) (ev_u rfl id) (fun hc => by have := of_decide_eq_true hc.2; omega)) ?_
  refine sr_pureg rfl rfl rfl (fun _ => (rc_call hgo (ev_u rfl id) (args_cons (ev_u rfl id) (args_nil)) rfl)) (fun hc => hf _ _) (fun w31 g31 => ?_)
  have g := g.trans (g31)
  refine sr_pu rfl (fun _ => rd_pick_and (ev_t rfl) (ev_u rfl id)) ?_
  refine sr_sub [(0, _, _), (1, _, _), (5, _, _), (32, _, _)] (sub_cons rfl (sub_cons rfl (sub_cons rfl (sub_cons rfl (sub_nil _))))) ?_
  refine sr_nil (hK5 _ _ ?_)
  refine sc_cond (ev_t rfl) (fun h1 => ?_) (fun h1 => ?_)
  · simp only [Bool.and_eq_true, decide_eq_true_eq] at h1
    obtain ⟨h1, h2⟩ := h1
    have e : ((p : Int) + n).toNat = p + n := by omega
    rw [e] at h2
    have hst := runN_step (by omega) h2
    refine sc_skip (hK4 _ _ ?_)
    refine sc_sub [(0, _, _), (1, _, _), (5, _, _)] (sub_cons rfl (sub_cons rfl (sub_cons rfl (sub_nil _)))) ?_
    refine sc_block ?_
    refine sc_text [3, 3, 3] ?_
    refine sr_pu rfl (fun _ => rd_move (ev_t rfl)) ?_
    refine sr_pu rfl (fun _ => rd_add (ev_t rfl) ev_c (fun _ => by omega)) ?_
    refine sr_pu rfl (fun _ => rd_assign (ev_t rfl)) ?_
    refine sr_sub [(0, _, _), (1, _, _), (5, _, _)] (sub_cons rfl (sub_cons rfl (sub_cons rfl (sub_nil _)))) ?_
    refine sr_nil (fun a ha => ?_)
    exact ⟨n + 1, ha, ⟨by omega, by rw [he, hst, Nat.add_assoc p n 1]; omega, g⟩, by omega⟩
  have hst : runN q (s.drop (p + n)) = 0 := runN_stop fun hk => by
    have e : ((p : Int) + n).toNat = p + n := by omega
    rw [e, decide_eq_true (by omega : (p : Int) + n < s.length), Bool.true_and] at h1
    exact h1
  refine sc_exit rfl (hK3 _ _ ?_)
  refine sc_sub [(5, _, _)] (sub_cons rfl (sub_nil _)) ?_
  refine sc_seq fun K6 hK6 => ?_
  refine sc_text [3, 3] ?_
  refine sr_pu rfl (fun _ => rd_move (ev_t rfl)) ?_
  refine sr_pu rfl (fun _ => rd_assign (ev_t rfl)) ?_
  refine sr_nil (hK6 _ _ ?_)
  refine sc_sub [(4, _, _), (5, _, _), (35, _, _)] (sub_cons rfl (sub_cons rfl (sub_cons rfl (sub_nil _)))) ?_
  refine sc_ret (t_ret1 rfl rfl ?_)
  refine ⟨?_, g⟩
  rw [he, hst]; rfl
end Go.Rk
namespace Go.Rk
open Go Go.Shelf Go.RowKit
def laysC174_ren : Go.Shelf.Ren := ⟨fun | 174 => 66 | 247 => 73 | 245 => 74 | 287 => 80 | 279 => 81 | 280 => 82 | 281 => 83 | 282 => 84 | 321 => 87 | 322 => 88 | 316 => 89 | 171 => 49 | 205 => 90 | 243 => 53 | 246 => 56 | 283 => 67 | 284 => 68 | 285 => 69 | 286 => 70 | 129 => 76 | 317 => 75 | 318 => 77 | 319 => 78 | 320 => 79 | 337 => 85 | 338 => 86 | n => n, fun | 9 => 9 | 3 => 3 | 2 => 2 | 75 => 52 | 85 => 88 | 4 => 4 | 167 => 105 | 5 => 5 | 53 => 92 | 175 => 106 | 46 => 103 | 168 => 108 | 37 => 41 | 0 => 0 | 210 => 115 | 21 => 21 | 127 => 55 | 145 => 121 | 143 => 119 | 171 => 91 | 173 => 95 | 212 => 100 | 51 => 101 | 20 => 20 | 213 => 102 | 232 => 117 | 233 => 118 | 80 => 48 | n => n, fun | 15 => 2 | 16 => 3 | 17 => 1 | 18 => 4 | 19 => 5 | n => n⟩
theorem laysC174 : Go.Proofs.LaysC.n174 PP laysC174_ren := {
  mixed := by kernel_rfl
  f129 := Go.Proofs.Tryd.func76.trans (congrArg some (by kernel_rfl))
  f171 := Go.Proofs.Tryd.func49.trans (congrArg some (by kernel_rfl))
  f174 := Go.Proofs.Tryd.func66.trans (congrArg some (by kernel_rfl))
  f205 := Go.Proofs.Tryd.func90.trans (congrArg some (by kernel_rfl))
  f243 := Go.Proofs.Tryd.func53.trans (congrArg some (by kernel_rfl))
  f245 := Go.Proofs.Tryd.func74.trans (congrArg some (by kernel_rfl))
  f246 := Go.Proofs.Tryd.func56.trans (congrArg some (by kernel_rfl))
  f247 := Go.Proofs.Tryd.func73.trans (congrArg some (by kernel_rfl))
  f279 := Go.Proofs.Tryd.func81.trans (congrArg some (by kernel_rfl))
  f280 := Go.Proofs.Tryd.func82.trans (congrArg some (by kernel_rfl))
  f281 := Go.Proofs.Tryd.func83.trans (congrArg some (by kernel_rfl))
  f282 := Go.Proofs.Tryd.func84.trans (congrArg some (by kernel_rfl))
  f283 := Go.Proofs.Tryd.func67.trans (congrArg some (by kernel_rfl))
  f284 := Go.Proofs.Tryd.func68.trans (congrArg some (by kernel_rfl))
  f285 := Go.Proofs.Tryd.func69.trans (congrArg some (by kernel_rfl))
  f286 := Go.Proofs.Tryd.func70.trans (congrArg some (by kernel_rfl))
  f287 := Go.Proofs.Tryd.func80.trans (congrArg some (by kernel_rfl))
  f316 := Go.Proofs.Tryd.func89.trans (congrArg some (by kernel_rfl))
  f317 := Go.Proofs.Tryd.func75.trans (congrArg some (by kernel_rfl))
  f318 := Go.Proofs.Tryd.func77.trans (congrArg some (by kernel_rfl))
  f319 := Go.Proofs.Tryd.func78.trans (congrArg some (by kernel_rfl))
  f320 := Go.Proofs.Tryd.func79.trans (congrArg some (by kernel_rfl))
  f321 := Go.Proofs.Tryd.func87.trans (congrArg some (by kernel_rfl))
  f322 := Go.Proofs.Tryd.func88.trans (congrArg some (by kernel_rfl))
  f337 := Go.Proofs.Tryd.func85.trans (congrArg some (by kernel_rfl))
  f338 := Go.Proofs.Tryd.func86.trans (congrArg some (by kernel_rfl))
  t0 := Go.Proofs.Tryd.underlying0
  a0 := Go.Proofs.Tryd.isAgg0
  z0 := Go.Proofs.Tryd.sizeOf0
  v0 := Go.Proofs.Tryd.zeroValue0
  t2 := Go.Proofs.Tryd.underlying2
  a2 := Go.Proofs.Tryd.isAgg2
  z2 := Go.Proofs.Tryd.sizeOf2
  v2 := Go.Proofs.Tryd.zeroValue2
  t3 := Go.Proofs.Tryd.underlying3
  a3 := Go.Proofs.Tryd.isAgg3
  z3 := Go.Proofs.Tryd.sizeOf3
  v3 := Go.Proofs.Tryd.zeroValue3
  t4 := Go.Proofs.Tryd.underlying4
  a4 := Go.Proofs.Tryd.isAgg4
  z4 := Go.Proofs.Tryd.sizeOf4
  v4 := Go.Proofs.Tryd.zeroValue4
  t5 := Go.Proofs.Tryd.underlying5
  a5 := Go.Proofs.Tryd.isAgg5
  z5 := Go.Proofs.Tryd.sizeOf5
  v5 := Go.Proofs.Tryd.zeroValue5
  t9 := Go.Proofs.Tryd.underlying9
  a9 := Go.Proofs.Tryd.isAgg9
  z9 := Go.Proofs.Tryd.sizeOf9
  v9 := Go.Proofs.Tryd.zeroValue9
  t20 := Go.Proofs.Tryd.underlying20
  a20 := Go.Proofs.Tryd.isAgg20
  z20 := Go.Proofs.Tryd.sizeOf20
  v20 := Go.Proofs.Tryd.zeroValue20
  t21 := Go.Proofs.Tryd.underlying21
  a21 := Go.Proofs.Tryd.isAgg21
  z21 := Go.Proofs.Tryd.sizeOf21
  v21 := Go.Proofs.Tryd.zeroValue21
  t37 := Go.Proofs.Tryd.underlying41
  a37 := Go.Proofs.Tryd.isAgg41
  z37 := Go.Proofs.Tryd.sizeOf41
  v37 := Go.Proofs.Tryd.zeroValue41
  t46 := Go.Proofs.Tryd.underlying103
  a46 := Go.Proofs.Tryd.isAgg103
  z46 := Go.Proofs.Tryd.sizeOf103
  v46 := Go.Proofs.Tryd.zeroValue103
  t51 := Go.Proofs.Tryd.underlying101
  a51 := Go.Proofs.Tryd.isAgg101
  z51 := Go.Proofs.Tryd.sizeOf101
  v51 := Go.Proofs.Tryd.zeroValue101
  t53 := Go.Proofs.Tryd.underlying92
  a53 := Go.Proofs.Tryd.isAgg92
  z53 := Go.Proofs.Tryd.sizeOf92
  v53 := Go.Proofs.Tryd.zeroValue92
  t75 := Go.Proofs.Tryd.underlying52
  a75 := Go.Proofs.Tryd.isAgg52
  z75 := Go.Proofs.Tryd.sizeOf52
  v75 := Go.Proofs.Tryd.zeroValue52
  t85 := Go.Proofs.Tryd.underlying88
  a85 := Go.Proofs.Tryd.isAgg88
  z85 := Go.Proofs.Tryd.sizeOf88
  v85 := Go.Proofs.Tryd.zeroValue88
  t127 := Go.Proofs.Tryd.underlying55
  a127 := Go.Proofs.Tryd.isAgg55
  z127 := Go.Proofs.Tryd.sizeOf55
  v127 := Go.Proofs.Tryd.zeroValue55
  t143 := Go.Proofs.Tryd.underlying119
  a143 := Go.Proofs.Tryd.isAgg119
  z143 := Go.Proofs.Tryd.sizeOf119
  v143 := Go.Proofs.Tryd.zeroValue119
  t145 := Go.Proofs.Tryd.underlying121
  a145 := Go.Proofs.Tryd.isAgg121
  z145 := Go.Proofs.Tryd.sizeOf121
  v145 := Go.Proofs.Tryd.zeroValue121
  t167 := Go.Proofs.Tryd.underlying105
  a167 := Go.Proofs.Tryd.isAgg105
  z167 := Go.Proofs.Tryd.sizeOf105
  v167 := Go.Proofs.Tryd.zeroValue105
  t168 := Go.Proofs.Tryd.underlying108
  a168 := Go.Proofs.Tryd.isAgg108
  z168 := Go.Proofs.Tryd.sizeOf108
  v168 := Go.Proofs.Tryd.zeroValue108
  t171 := Go.Proofs.Tryd.underlying91
  a171 := Go.Proofs.Tryd.isAgg91
  z171 := Go.Proofs.Tryd.sizeOf91
  v171 := Go.Proofs.Tryd.zeroValue91
  t173 := Go.Proofs.Tryd.underlying95
  a173 := Go.Proofs.Tryd.isAgg95
  z173 := Go.Proofs.Tryd.sizeOf95
  v173 := Go.Proofs.Tryd.zeroValue95
  t175 := Go.Proofs.Tryd.underlying106
  a175 := Go.Proofs.Tryd.isAgg106
  z175 := Go.Proofs.Tryd.sizeOf106
  v175 := Go.Proofs.Tryd.zeroValue106
  t210 := Go.Proofs.Tryd.underlying115
  a210 := Go.Proofs.Tryd.isAgg115
  z210 := Go.Proofs.Tryd.sizeOf115
  v210 := Go.Proofs.Tryd.zeroValue115
  t212 := Go.Proofs.Tryd.underlying100
  a212 := Go.Proofs.Tryd.isAgg100
  z212 := Go.Proofs.Tryd.sizeOf100
  v212 := Go.Proofs.Tryd.zeroValue100
  t213 := Go.Proofs.Tryd.underlying102
  a213 := Go.Proofs.Tryd.isAgg102
  z213 := Go.Proofs.Tryd.sizeOf102
  t232 := Go.Proofs.Tryd.underlying117
  a232 := Go.Proofs.Tryd.isAgg117
  z232 := Go.Proofs.Tryd.sizeOf117
  v232 := Go.Proofs.Tryd.zeroValue117
  t233 := Go.Proofs.Tryd.underlying118
  a233 := Go.Proofs.Tryd.isAgg118
  z233 := Go.Proofs.Tryd.sizeOf118
  v233 := Go.Proofs.Tryd.zeroValue118
  g15 := by kernel_rfl
  g16 := by kernel_rfl
  g17 := by kernel_rfl
  g18 := by kernel_rfl
  g19 := by kernel_rfl
  t80 := Go.Proofs.Tryd.underlying48
  a80 := Go.Proofs.Tryd.isAgg48
  z80 := Go.Proofs.Tryd.sizeOf48
  v80 := Go.Proofs.Tryd.zeroValue48
  i0 := by kernel_rfl
  i2 := by kernel_rfl
  i3 := by kernel_rfl
  i4 := by kernel_rfl
  i5 := by kernel_rfl
  i9 := by kernel_rfl
  i20 := by kernel_rfl
  i21 := by kernel_rfl
  i37 := by kernel_rfl
  i46 := by kernel_rfl
  i51 := by kernel_rfl
  i53 := by kernel_rfl
  i75 := by kernel_rfl
  i80 := by kernel_rfl
  i85 := by kernel_rfl
  i127 := by kernel_rfl
  i143 := by kernel_rfl
  i145 := by kernel_rfl
  i167 := by kernel_rfl
  i168 := by kernel_rfl
  i171 := by kernel_rfl
  i173 := by kernel_rfl
  i175 := by kernel_rfl
  i210 := by kernel_rfl
  i212 := by kernel_rfl
  i232 := by kernel_rfl
  i233 := by kernel_rfl
  m15 := by kernel_rfl
  m16 := by kernel_rfl
  m17 := by kernel_rfl
  m18 := by kernel_rfl
  m19 := by kernel_rfl
  c0 := by kernel_rfl
  c2 := by kernel_rfl
  c3 := by kernel_rfl
  c4 := by kernel_rfl
  c5 := by kernel_rfl
  c9 := by kernel_rfl
  c20 := by kernel_rfl
  c21 := by kernel_rfl
  c37 := by kernel_rfl
  c46 := by kernel_rfl
  c51 := by kernel_rfl
  c53 := by kernel_rfl
  c75 := by kernel_rfl
  c80 := by kernel_rfl
  c85 := by kernel_rfl
  c127 := by kernel_rfl
  c143 := by kernel_rfl
  c145 := by kernel_rfl
  c167 := by kernel_rfl
  c168 := by kernel_rfl
  c171 := by kernel_rfl
  c173 := by kernel_rfl
  c175 := by kernel_rfl
  c210 := by kernel_rfl
  c212 := by kernel_rfl
  c213 := by kernel_rfl
  c232 := by kernel_rfl
  c233 := by kernel_rfl }
end Go.Rk
namespace Go.Rk
open Go Go.Shelf Go.RowKit
/-- The value of digits. -/
def valN (a : Nat) (l : List UInt8) : Nat := l.foldl (fun a c => a * 10 + (c.toNat - 48)) a
def allD (l : List UInt8) : Prop := ∀ c ∈ l, 48 ≤ c.toNat ∧ c.toNat ≤ 57
theorem valN_cons (a : Nat) (c : UInt8) (l : List UInt8) : valN a (c :: l) = valN (a * 10 + (c.toNat - 48)) l := List.foldl_cons ..
theorem valN_ge (l : List UInt8) : ∀ a, a ≤ valN a l := by
  induction l with
  | nil => exact fun a => Nat.le_refl _
  | cons c l ih => intro a; have := ih (a * 10 + (c.toNat - 48)); rw [valN_cons]; omega
theorem parseM_digits (M : Nat) (hM : M = 18446744073709551615) : ∀ (l : List UInt8) (a : Nat), allD l → Lib.parseUintM M a l = if l = [] then .ok a else if valN a l ≤ M then .ok (valN a l) else .range
  | [], a, _ => rfl
  | c :: l, a, h => by
    have hc := h c (List.mem_cons_self ..)
    have ih := parseM_digits M hM l (a * 10 + (c.toNat - 48)) (fun x hx => h x (List.mem_cons_of_mem _ hx))
    have hge := valN_ge l (a * 10 + (c.toNat - 48))
    rw [if_neg (by simp : ¬ (c :: l) = []), valN_cons]
    rw [Lib.parseUintM, if_pos hc]
    generalize hv : a * 10 + (c.toNat - 48) = v at ih hge ⊢
    by_cases h1 : 1844674407370955162 ≤ a
    · rw [if_pos h1, if_neg (by omega)]
    · rw [if_neg h1]
      by_cases h2 : M < v
      · rw [if_pos h2, if_neg (by omega)]
      · rw [if_neg h2, ih]
        by_cases hl : l = []
        · subst hl; rw [if_pos rfl]; rw [if_pos (show valN v [] ≤ M by show v ≤ M; omega)]; rfl
        · rw [if_neg hl]
theorem parseI_digits (l : List UInt8) (h : allD l) (hne : l ≠ []) : Lib.parseIntB 64 l = if valN 0 l < 9223372036854775808 then .ok (valN 0 l : Int) else .range := by
  cases l with
  | nil => exact absurd rfl hne
  | cons c r =>
    have hc := h c (List.mem_cons_self ..)
    have e1 : (2 : Nat) ^ (64 - 1) = 9223372036854775808 := by decide
    have e2 : (2 : Nat) ^ 64 - 1 = 18446744073709551615 := by decide
    have hm := parseM_digits _ rfl (c :: r) 0 h
    rw [if_neg (by simp : ¬ (c :: r) = [])] at hm
    simp only [Lib.parseIntB, Lib.parseUintB, e1, e2]
    rw [if_neg (by omega : ¬ (c.toNat = 43 ∨ c.toNat = 45)), if_neg (by simp : ¬ (c :: r) = []), hm]
    by_cases h2 : valN 0 (c :: r) ≤ 18446744073709551615
    · rw [if_pos h2]
      by_cases h3 : valN 0 (c :: r) < 9223372036854775808
      · rw [if_pos h3]; simp only []; rw [if_neg (by omega), if_neg (by omega), if_neg (by omega)]
      · rw [if_neg h3]; simp only []; rw [if_pos (by omega)]
    · rw [if_neg h2, if_neg (by omega)]
/-- The error of strconv.ParseInt, as far as it matters: whether it is nil. -/
theorem parse_ok (l : List UInt8) (h : allD l) (hne : l ≠ []) (hl : l.length ≤ 20000) (w : World) (ev : Value) (hv : w.cell? ⟨3, 0, none⟩ = some ev) (hev : ev = .nilIface ∨ ∃ te pe, ev = .iface te pe) :
    Ret PP fn_strconv_ParseInt #[Str l, .int .i64 10, .int .i64 64] w fun v w' => (∃ x e, v = .tuple #[.int .i64 x, e] ∧ (e = .nilIface ∨ ∃ a b, e = .iface a b) ∧ nilV e = decide (valN 0 l < 9223372036854775808)) ∧ G w w' := by
  have hp := parseI_digits l h hne
  by_cases h3 : valN 0 l < 9223372036854775808
  · rw [if_pos h3] at hp
    refine (Go.Proofs.Any.strconv_ParseInt_10_at64_ok laysC174 ⟨l.toArray⟩ (by simp [ByteArray.size]; omega) _ (by simpa using hp) w).mono ?_
    rintro e w' ⟨rfl, hw⟩
    refine ⟨_, rfl, ⟨_, .nilIface, rfl, .inl rfl, by rw [decide_eq_true h3]; rfl⟩, ?_⟩
    rcases hw with rfl | ⟨t, rfl⟩
    · exact G.refl _
    · exact Lib.bytesWorld_below _ _ _
  · rw [if_neg h3] at hp
    refine (Go.Proofs.Any.strconv_ParseInt_10_at64_range laysC174 ⟨l.toArray⟩ (by simp [ByteArray.size]; omega) (by simpa using hp) ev w hv hev).mono ?_
    rintro e w' ⟨N, rfl, _, _, hb⟩
    exact ⟨_, rfl, ⟨_, _, rfl, .inr ⟨_, _, rfl⟩, by rw [decide_eq_false h3]; rfl⟩, hb⟩
end Go.Rk
namespace Go.Rk
open Go Go.RowKit
def opsL : List (List UInt8) := [[58, 61], [61, 61], [33, 61], [60, 61], [62, 61], [38, 38], [124, 124], [60, 45], [40], [41], [91], [93], [123], [125], [44], [59], [58], [46], [61], [60], [62], [43], [45], [42], [47], [37], [33]]
/-- What start-up laid. -/
structure Laid (w : World) : Prop where
  ops : RowAt w 0 0 (opsL.map Str)
  err : ∃ ev, w.cell? ⟨3, 0, none⟩ = some ev ∧ (ev = .nilIface ∨ ∃ te pe, ev = .iface te pe)
theorem Laid.below {w w' : World} {base : Nat} (h : Laid w) (hb : 4 ≤ base) (g : Below base w w') : Laid w' :=
  ⟨fun j v hj => (Below.cell g (show 0 < base by omega)).trans (h.ops j v hj), by
    obtain ⟨ev, h1, h2⟩ := h.err
    exact ⟨ev, (Below.cell g (show 3 < base by omega)).trans h1, h2⟩⟩
theorem Laid.grow {w w' : World} (h : Laid w) (g : G w w') : Laid w' :=
  ⟨h.ops.grow g, by
    obtain ⟨ev, h1, h2⟩ := h.err
    exact ⟨ev, cell_grow g h1, h2⟩⟩
def cAt (s : List UInt8) (p : Nat) : Int := ((s.getD p 0).toNat : Int)
def isNotLf (c : Int) : Bool := !decide (c = 10)
def isAlnum (c : Int) : Bool := letterB c || digitB c
def opLen (l : List UInt8) : Nat := match opsL.find? (fun o => preB o l) with
  | some o => o.length
  | none => 0
def badD (s : List UInt8) (p n : Nat) : Bool := (decide (cAt s p = 48) && decide ((1 : Int) < n)) || (decide ((p : Int) + n < s.length) && letterB (cAt s (p + n)))
def wordK (l : List UInt8) : Int := bif inB kws l then 3 else 1
/-- One step: the place, the tokens, the comments, the error. -/
def nextF (s : List UInt8) (p : Nat) (ts cs : List Tok) : Nat × List Tok × List Tok × Int :=
  bif decide (cAt s p = 10) then (p + 1, nlTs p ts, cs, 0)
  else bif (decide (cAt s p = 32) || decide (cAt s p = 9)) || decide (cAt s p = 13) then (p + 1, ts, cs, 0)
  else bif preB [47, 47] (s.drop p) then (p + runN isNotLf (s.drop p), ts, cs ++ [⟨5, (s.drop p).take (runN isNotLf (s.drop p)), p⟩], 0)
  else bif letterB (cAt s p) then bif decide ((32 : Int) < runN isAlnum (s.drop p)) then (p, ts, cs, 3)
    else (p + runN isAlnum (s.drop p), ts ++ [⟨wordK ((s.drop p).take (runN isAlnum (s.drop p))), (s.drop p).take (runN isAlnum (s.drop p)), p⟩], cs, 0)
  else bif digitB (cAt s p) then bif badD s p (runN digitB (s.drop p)) then (p, ts, cs, 4)
    else bif decide (valN 0 ((s.drop p).take (runN digitB (s.drop p))) < 9223372036854775808) then (p + runN digitB (s.drop p), ts ++ [⟨2, (s.drop p).take (runN digitB (s.drop p)), p⟩], cs, 0) else (p, ts, cs, 4)
  else bif Nat.beq (opLen (s.drop p)) 0 then (p, ts, cs, 4)
  else (p + opLen (s.drop p), ts ++ [⟨4, (s.drop p).take (opLen (s.drop p)), p⟩], cs, 0)
theorem runN_pos {q : Int → Bool} {s : List UInt8} {p : Nat} (h : p < s.length) (hq : q (cAt s p) = true) : 1 ≤ runN q (s.drop p) := by rw [runN_step h hq]; omega
theorem runN_fit (q : Int → Bool) {s : List UInt8} {p : Nat} (h : p < s.length) : p + runN q (s.drop p) ≤ s.length := by
  have := runN_le q (s.drop p); rw [List.length_drop] at this; omega
theorem runN_all (q : Int → Bool) : ∀ (l : List UInt8), ∀ c ∈ l.take (runN q l), q c.toNat = true
  | [], c, hc => by cases hc
  | a :: l, c, hc => by
    rw [runN] at hc
    split at hc
    · rename_i h
      rw [List.take_succ_cons] at hc
      rcases List.mem_cons.mp hc with rfl | hc
      · exact h
      · exact runN_all q l c hc
    · cases hc
theorem digits_allD (s : List UInt8) (p : Nat) : allD ((s.drop p).take (runN digitB (s.drop p))) := fun c hc => by
  have := runN_all digitB _ c hc
  simp only [digitB, Bool.and_eq_true, decide_eq_true_eq] at this
  omega
theorem opsL_at {i : Nat} (h : i < 27) : (opsL.map Str).toArray[i]? = some (Str (opsL.getD i [])) := by
  have hl : opsL.length = 27 := rfl
  simp [List.getD_eq_getElem?_getD, List.getElem?_eq_getElem (show i < opsL.length by omega)]
theorem opsL_pos : ∀ i < 27, 1 ≤ (opsL.getD i []).length := by decide
theorem opLen_some {l : List UInt8} {i : Nat} (h : i < 27) (h1 : ∀ j < i, preB (opsL.getD j []) l = false) (h2 : preB (opsL.getD i []) l = true) : opLen l = (opsL.getD i []).length := by
  have hl : opsL.length = 27 := rfl
  have : opsL.find? (fun o => preB o l) = some (opsL.getD i []) := by
    rw [List.find?_eq_some_iff_getElem]
    refine ⟨h2, i, by omega, ?_, fun j hj => ?_⟩
    · simp [List.getD_eq_getElem?_getD, List.getElem?_eq_getElem (show i < opsL.length by omega)]
    · have := h1 j hj
      simp [List.getD_eq_getElem?_getD, List.getElem?_eq_getElem (show j < opsL.length by omega)] at this
      simp [this]
  rw [opLen, this]
theorem opLen_none {l : List UInt8} (h1 : ∀ j < 27, preB (opsL.getD j []) l = false) : opLen l = 0 := by
  have hl : opsL.length = 27 := rfl
  have : opsL.find? (fun o => preB o l) = none := by
    rw [List.find?_eq_none]
    intro o ho
    obtain ⟨j, hj, rfl⟩ := List.getElem_of_mem ho
    have := h1 j (by omega)
    simp [List.getD_eq_getElem?_getD, List.getElem?_eq_getElem hj] at this
    simp [this]
  rw [opLen, this]
theorem preB_len {o l : List UInt8} (h : preB o l = true) : o.length ≤ l.length ∧ l.take o.length = o := by
  simpa [preB] using h
theorem next_ok (base b : Nat) (hb3 : 4 ≤ base) (s : List UInt8) (p : Nat) (ts cs : List Tok) (w : World) (hL : Laid w) (hs : Scn base b s p ts cs w) (hp : p < s.length) :
    Ret PP fn_scan_scanner_next #[.pointer (some ⟨b, 0, none⟩)] w fun v w' => v = .int .i64 (nextF s p ts cs).2.2.2 ∧ Scn base b s (nextF s p ts cs).1 (nextF s p ts cs).2.1 (nextF s p ts cs).2.2.1 w' ∧ Below base w w' := by
  obtain ⟨ta, tc, ca, cc, hs, k1, k2, k3, k4⟩ := hs.sa
  have g := G.refl w
  refine ret_of_sc (m := 204) func_scan_scanner_next rfl rfl [(0, True, _)] (sub_cons rfl (sub_nil _)) ?_
  refine sc_seq fun K1 hK1 => ?_
  refine sc_text [3] ?_
  refine sr_pu rfl (fun _ => rd_assign ev_c) ?_
  refine sr_nil (hK1 _ _ ?_)
  refine sc_seq fun K2 hK2 => ?_
  refine sc_draw [3, 3, 3, 0, 3, 3, 3, 0, 3, 3] [true, true, true, true, true, true, true, true, true, true] [0, 1, 3, 7, 0, 16, 48, 112, 255, 511] mix (by kernel_rfl) ?_
  have g := g.trans (G.drew _)
  refine sr_pu rfl (fun _ => rd_move (ev_t rfl)) ?_
  refine sr_pu rfl (fun _ => rd_nil (ev_t rfl)) ?_
  refine sr_pu rfl (fun _ => rd_field fo_scan_scanner_0 (ev_t rfl)) ?_
  refine sr_rd rfl (rd_load one_string (ev_t rfl) (fun _ => by first | exact (hs.grow g).B.at_ rfl)) ?_
  refine sr_pu rfl (fun _ => rd_move (ev_t rfl)) ?_
  refine sr_pu rfl (fun _ => rd_nil (ev_t rfl)) ?_
  refine sr_pu rfl (fun _ => rd_field fo_scan_scanner_1 (ev_t rfl)) ?_
  refine sr_rd rfl (rd_load one_int (ev_t rfl) (fun _ => by first | exact (hs.grow g).B.at_ rfl)) ?_
  refine sr_pu rfl (fun _ => rd_sidx str_string (ev_t rfl) (ev_t rfl) (fun _ => by omega)) ?_
  refine sr_pu rfl (fun _ => rd_assign (ev_t rfl)) ?_
  refine sr_sub [(0, _, _), (2, _, _), (3, _, _)] (sub_cons rfl (sub_cons rfl (sub_cons rfl (sub_nil _)))) ?_
  refine sr_nil (hK2 _ _ ?_)
  refine sc_seq fun K3 hK3 => ?_
  refine sc_block ?_
  refine sc_seq fun K4 hK4 => ?_
  refine sc_text [3, 3, 3] ?_
  refine sr_pu rfl (fun _ => rd_move (ev_t rfl)) ?_
  refine sr_pu rfl (fun _ => rd_eq (ev_t rfl) ev_c) ?_
  refine sr_pu rfl (fun _ => rd_assign (ev_t rfl)) ?_
  refine sr_sub [(0, _, _), (2, _, _), (3, _, _), (41, _, _)] (sub_cons rfl (sub_cons rfl (sub_cons rfl (sub_cons rfl (sub_nil _))))) ?_
  refine sr_nil (hK4 _ _ ?_)
  refine sc_cond (ev_t rfl) (fun h1 => ?_) (fun h1 => ?_)
  · replace h1 : decide (cAt s p = 10) = true := h1
    have hN : nextF s p ts cs = (p + 1, nlTs p ts, cs, 0) := by unfold nextF; rw [h1]; rfl
    refine sc_text [3, 2] ?_
    refine sr_pu rfl (fun _ => rd_move (ev_t rfl)) ?_
    refine sr_call rfl (rc_call go_scan_scanner_newline ev_f (args_cons (ev_t rfl) (args_nil)) rfl) (newline_ok base b s p ts cs _ ((hs.grow g).scn k1 k2 k3 k4) hp) ?_
    rintro v45 w45 ⟨rfl, hs', hb'⟩
    refine ⟨fun h => absurd h (by decide), ?_⟩
    have hb' := (below_g g hs.base_le).trans hb'
    refine sr_sub [(2, _, _)] (sub_cons rfl (sub_nil _)) ?_
    refine sr_nil (hK3 _ _ ?_)
    refine sc_seq fun K5 hK5 => ?_
    refine sc_text [3] ?_
    refine sr_pu rfl (fun _ => rd_assign ev_c) ?_
    refine sr_nil (hK5 _ _ ?_)
    refine sc_ret (t_ret1 rfl rfl ?_)
    rw [hN]; exact ⟨rfl, hs', hb'⟩
  replace h1 : decide (cAt s p = 10) = false := h1
  refine sc_seq fun K6 hK6 => ?_
  refine sc_text [3, 3, 3, 3, 3, 3, 3, 3, 3, 3, 3] ?_
  refine sr_pu rfl (fun _ => rd_move (ev_t rfl)) ?_
  refine sr_pu rfl (fun _ => rd_eq (ev_t rfl) ev_c) ?_
  refine sr_pu rfl (fun _ => rd_move (ev_t rfl)) ?_
  refine sr_pug rfl rfl rfl (fun _ => rd_move (ev_t rfl)) ?_
  refine sr_pug rfl rfl rfl (fun _ => rd_eq (ev_u rfl id) ev_c) ?_
  refine sr_pu rfl (fun _ => rd_pick_or (ev_t rfl) (ev_u rfl id)) ?_
  refine sr_pu rfl (fun _ => rd_move (ev_t rfl)) ?_
  refine sr_pug rfl rfl rfl (fun _ => rd_move (ev_t rfl)) ?_
  refine sr_pug rfl rfl rfl (fun _ => rd_eq (ev_u rfl id) ev_c) ?_
  refine sr_pu rfl (fun _ => rd_pick_or (ev_t rfl) (ev_u rfl id)) ?_
  refine sr_pu rfl (fun _ => rd_assign (ev_t rfl)) ?_
  refine sr_sub [(0, _, _), (2, _, _), (3, _, _), (46, _, _)] (sub_cons rfl (sub_cons rfl (sub_cons rfl (sub_cons rfl (sub_nil _))))) ?_
  refine sr_nil (hK6 _ _ ?_)
  refine sc_cond (ev_t rfl) (fun h2 => ?_) (fun h2 => ?_)
  · replace h2 : ((decide (cAt s p = 32) || decide (cAt s p = 9)) || decide (cAt s p = 13)) = true := h2
    have hN : nextF s p ts cs = (p + 1, ts, cs, 0) := by unfold nextF; rw [h1, h2]; rfl
    refine sc_text [3, 3, 3, 0, 3, 3, 3, 2] ?_
    refine sr_pu rfl (fun _ => rd_move (ev_t rfl)) ?_
    refine sr_pu rfl (fun _ => rd_nil (ev_t rfl)) ?_
    refine sr_pu rfl (fun _ => rd_field fo_scan_scanner_1 (ev_t rfl)) ?_
    refine sr_rd rfl (rd_load one_int (ev_t rfl) (fun _ => by first | exact (hs.grow g).B.at_ rfl)) ?_
    refine sr_pu rfl (fun _ => rd_add (ev_t rfl) ev_c (fun _ => by omega)) ?_
    refine sr_pu rfl (fun _ => rd_nil (ev_t rfl)) ?_
    refine sr_pu rfl (fun _ => rd_field fo_scan_scanner_1 (ev_t rfl)) ?_
    refine sr_store rfl sz_int (ev_t rfl) (ev_t rfl) rfl rfl (hs.grow g).B rfl rfl ?_
    intro w63 hg63 hz63 hB
    have hb' := below_go (Below.refl _ _) g hg63 hs.base_le hs.hb
    have hs' := ((hs.grow g).setp (q := p + 1) hg63 hB).scn (by omega) (by omega) (by omega) k4
    refine sr_sub [(2, _, _)] (sub_cons rfl (sub_nil _)) ?_
    refine sr_nil (hK3 _ _ ?_)
    refine sc_seq fun K7 hK7 => ?_
    refine sc_text [3] ?_
    refine sr_pu rfl (fun _ => rd_assign ev_c) ?_
    refine sr_nil (hK7 _ _ ?_)
    refine sc_ret (t_ret1 rfl rfl ?_)
    rw [hN]; exact ⟨rfl, hs', hb'⟩
  replace h2 : ((decide (cAt s p = 32) || decide (cAt s p = 9)) || decide (cAt s p = 13)) = false := h2
  refine sc_seq fun K8 hK8 => ?_
  refine sc_draw [3, 3, 3, 0, 3, 3, 3, 0, 3, 1, 3] [true, true, true, true, true, true, true, true, true, true, true] [0, 1, 3, 7, 0, 16, 48, 112, 255, 511, 1023] mix (by kernel_rfl) ?_
  have g := g.trans (G.drew _)
  refine sr_pu rfl (fun _ => rd_move (ev_t rfl)) ?_
  refine sr_pu rfl (fun _ => rd_nil (ev_t rfl)) ?_
  refine sr_pu rfl (fun _ => rd_field fo_scan_scanner_0 (ev_t rfl)) ?_
  refine sr_rd rfl (rd_load one_string (ev_t rfl) (fun _ => by first | exact (hs.grow g).B.at_ rfl)) ?_
  refine sr_pu rfl (fun _ => rd_move (ev_t rfl)) ?_
  refine sr_pu rfl (fun _ => rd_nil (ev_t rfl)) ?_
  refine sr_pu rfl (fun _ => rd_field fo_scan_scanner_1 (ev_t rfl)) ?_
  refine sr_rd rfl (rd_load one_int (ev_t rfl) (fun _ => by first | exact (hs.grow g).B.at_ rfl)) ?_
  refine sr_pu rfl (fun _ => rd_ssl_from str_string (ev_t rfl) (ev_t rfl) (fun _ => by omega)) ?_
  refine sr_pure rfl (rc_call go_strings_HasPrefix ev_f (args_cons (ev_t rfl) (args_cons ev_c (args_nil))) rfl) (shasprefix_ok _ _ _) (fun w74 g74 => ?_)
  have g := g.trans (g74)
  refine sr_pu rfl (fun _ => rd_assign (ev_t rfl)) ?_
  refine sr_sub [(0, _, _), (2, _, _), (3, _, _), (64, _, _)] (sub_cons rfl (sub_cons rfl (sub_cons rfl (sub_cons rfl (sub_nil _))))) ?_
  refine sr_nil (hK8 _ _ ?_)
  refine sc_cond (ev_t rfl) (fun h3 => ?_) (fun h3 => ?_)
  · replace h3 : preB [47, 47] (s.drop p) = true := h3
    have hn := runN_pos (q := isNotLf) hp (by rw [isNotLf, h1]; rfl)
    have hf := runN_fit isNotLf hp
    have hN : nextF s p ts cs = (p + runN isNotLf (s.drop p), ts, cs ++ [⟨5, (s.drop p).take (runN isNotLf (s.drop p)), p⟩], 0) := by unfold nextF; rw [h1, h2, h3]; rfl
    have e : ((p : Int) + (runN isNotLf (s.drop p) : Nat)).toNat - (p : Int).toNat = runN isNotLf (s.drop p) := by omega
    refine sc_seq fun K9 hK9 => ?_
    refine sc_text [3, 1, 3] ?_
    refine sr_pu rfl (fun _ => rd_move (ev_t rfl)) ?_
    refine sr_pure rfl (rc_call go_scan_scanner_run ev_f (args_cons (ev_t rfl) (args_cons ev_f (args_nil))) rfl) (run_ok base b s p ts cs _ ((hs.grow g).scn k1 k2 k3 k4) _ isNotLf go_scan_scanner_next_1 notlf_ok) (fun w76 g76 => ?_)
    have g := g.trans (g76)
    refine sr_pu rfl (fun _ => rd_assign (ev_t rfl)) ?_
    refine sr_sub [(0, _, _), (2, _, _), (4, _, _)] (sub_cons rfl (sub_cons rfl (sub_cons rfl (sub_nil _)))) ?_
    refine sr_nil (hK9 _ _ ?_)
    refine sc_seq fun K10 hK10 => ?_
    refine sc_draw [3, 3, 3, 3, 0, 3, 3, 3, 0, 3, 3, 3, 0, 3, 3, 3, 0, 3, 3, 3, 3, 3, 3, 0, 3, 1, 2, 3, 3, 2] [true, true, true, true, true, true, true, true, true, true, true, true, true, true, true, true, true, true, true, true, true, true, true, true, true, true, true, true, true, true] [0, 0, 2, 6, 14, 0, 32, 96, 224, 0, 512, 1536, 3584, 0, 8192, 24576, 57344, 0, 253952, 524256, 0, 1048576, 3145728, 7340032, 16777184, 33554400, 67108862, 134217727, 268435455, 536870911] mix (by kernel_rfl) ?_
    have g := g.trans (G.drew _)
    refine sr_pu rfl (fun _ => rd_move (ev_t rfl)) ?_
    refine sr_pu rfl (fun _ => rd_move (ev_t rfl)) ?_
    refine sr_pu rfl (fun _ => rd_nil (ev_t rfl)) ?_
    refine sr_pu rfl (fun _ => rd_field fo_scan_scanner_3 (ev_t rfl)) ?_
    refine sr_rd rfl (rd_load one_sl_api_Token (ev_t rfl) (fun _ => by first | exact (hs.grow g).B.at_ rfl)) ?_
    refine sr_pu rfl (fun _ => rd_move (ev_t rfl)) ?_
    refine sr_pu rfl (fun _ => rd_nil (ev_t rfl)) ?_
    refine sr_pu rfl (fun _ => rd_field fo_scan_scanner_0 (ev_t rfl)) ?_
    refine sr_rd rfl (rd_load one_string (ev_t rfl) (fun _ => by first | exact (hs.grow g).B.at_ rfl)) ?_
    refine sr_pu rfl (fun _ => rd_move (ev_t rfl)) ?_
    refine sr_pu rfl (fun _ => rd_nil (ev_t rfl)) ?_
    refine sr_pu rfl (fun _ => rd_field fo_scan_scanner_1 (ev_t rfl)) ?_
    refine sr_rd rfl (rd_load one_int (ev_t rfl) (fun _ => by first | exact (hs.grow g).B.at_ rfl)) ?_
    refine sr_pu rfl (fun _ => rd_move (ev_t rfl)) ?_
    refine sr_pu rfl (fun _ => rd_nil (ev_t rfl)) ?_
    refine sr_pu rfl (fun _ => rd_field fo_scan_scanner_1 (ev_t rfl)) ?_
    refine sr_rd rfl (rd_load one_int (ev_t rfl) (fun _ => by first | exact (hs.grow g).B.at_ rfl)) ?_
    refine sr_pu rfl (fun _ => rd_move (ev_t rfl)) ?_
    refine sr_pu rfl (fun _ => rd_add (ev_t rfl) (ev_t rfl) (fun _ => by omega)) ?_
    refine sr_pu rfl (fun _ => rd_ssl str_string (ev_t rfl) (ev_t rfl) (ev_t rfl) (fun _ => by omega)) ?_
    refine sr_pu rfl (fun _ => rd_move (ev_t rfl)) ?_
    refine sr_pu rfl (fun _ => rd_nil (ev_t rfl)) ?_
    refine sr_pu rfl (fun _ => rd_field fo_scan_scanner_1 (ev_t rfl)) ?_
    refine sr_rd rfl (rd_load one_int (ev_t rfl) (fun _ => by first | exact (hs.grow g).B.at_ rfl)) ?_
    refine sr_pu rfl (fun _ => rd_build [_, _, _] ze_api_Token rfl pl_api_Token (parts_cons ev_c (parts_cons (ev_t rfl) (parts_cons (ev_t rfl) (parts_nil)))) rfl) ?_
    refine sr_buildSlice [_, _, _] rfl el_sl_api_Token ze_api_Token (parts_cons (ev_t rfl) (parts_nil)) rfl rfl ?_
    intro b102 w102 N102
    have l102 := N102.ge g
    have g := g.trans (N102.g)
    have B102 := N102.blk
    have hb := below_g g hs.base_le
    have hs := hs.grow g
    have hz0 := hs.base_le
    refine sr_append rfl el_sl_api_Token ze_api_Token rfl (by decide) (ev_t rfl) hs.hc (ev_t rfl) rfl N102.blk.row rfl (by simp only [maxLen]; omega) (by omega) (by omega) ?_
    intro ca' cc' w103 hc' hg103 hat
    have hB := hs.B.keep hg103 (Ne.symm hs.n2)
    have hz := hg103.size
    refine sr_pu rfl (fun _ => rd_nil (ev_t rfl)) ?_
    refine sr_pu rfl (fun _ => rd_field fo_scan_scanner_3 (ev_t rfl)) ?_
    refine sr_store rfl sz_sl_api_Token (ev_t rfl) (ev_t rfl) rfl rfl hB rfl rfl ?_
    intro w105 hg105 hz105 hB
    have hb := below_only (below_only hb hg103 hs.base_le (fun k hk => (hs.hc.lt k hk).1)) hg105 (by have := hs.base_le; omega) (fun k hk => by injection hk with hk; have := hs.hb; omega)
    rw [e] at hc'
    have hs := hs.putC (t := ⟨5, (s.drop p).take (runN isNotLf (s.drop p)), p⟩) hc' hg103 hat hg105 hB
    have g := G.refl w105
    refine sr_sub [(0, _, _), (2, _, _), (4, _, _)] (sub_cons rfl (sub_cons rfl (sub_cons rfl (sub_nil _)))) ?_
    refine sr_nil (hK10 _ _ ?_)
    refine sc_text [3, 3, 3, 0, 3, 3, 3, 3, 2] ?_
    refine sr_pu rfl (fun _ => rd_move (ev_t rfl)) ?_
    refine sr_pu rfl (fun _ => rd_nil (ev_t rfl)) ?_
    refine sr_pu rfl (fun _ => rd_field fo_scan_scanner_1 (ev_t rfl)) ?_
    refine sr_rd rfl (rd_load one_int (ev_t rfl) (fun _ => by first | exact (hs.grow g).B.at_ rfl | exact B102.at_ rfl | exact B102.row)) ?_
    refine sr_pu rfl (fun _ => rd_move (ev_t rfl)) ?_
    refine sr_pu rfl (fun _ => rd_add (ev_t rfl) (ev_t rfl) (fun _ => by omega)) ?_
    refine sr_pu rfl (fun _ => rd_nil (ev_t rfl)) ?_
    refine sr_pu rfl (fun _ => rd_field fo_scan_scanner_1 (ev_t rfl)) ?_
    refine sr_store rfl sz_int (ev_t rfl) (ev_t rfl) rfl rfl (hs.grow g).B rfl rfl ?_
    intro w113 hg113 hz113 hB
    have hb' := below_go hb g hg113 hs.base_le hs.hb
    have hs' := ((hs.grow g).setp (q := p + runN isNotLf (s.drop p)) hg113 hB).scn (by omega) (by rw [List.length_append]; show cs.length + 1 ≤ _; omega) hf k4
    refine sr_sub [(2, _, _)] (sub_cons rfl (sub_nil _)) ?_
    refine sr_nil (hK3 _ _ ?_)
    refine sc_seq fun K11 hK11 => ?_
    refine sc_text [3] ?_
    refine sr_pu rfl (fun _ => rd_assign ev_c) ?_
    refine sr_nil (hK11 _ _ ?_)
    refine sc_ret (t_ret1 rfl rfl ?_)
    rw [hN]; exact ⟨rfl, hs', hb'⟩
  replace h3 : preB [47, 47] (s.drop p) = false := h3
  refine sc_seq fun K12 hK12 => ?_
  refine sc_text [3, 1, 3] ?_
  refine sr_pu rfl (fun _ => rd_move (ev_t rfl)) ?_
  refine sr_pure rfl (rc_call go_scan_letter ev_f (args_cons (ev_t rfl) (args_nil)) rfl) (letter_ok _ _) (fun w116 g116 => ?_)
  have g := g.trans (g116)
  refine sr_pu rfl (fun _ => rd_assign (ev_t rfl)) ?_
  refine sr_sub [(0, _, _), (2, _, _), (3, _, _), (114, _, _)] (sub_cons rfl (sub_cons rfl (sub_cons rfl (sub_cons rfl (sub_nil _))))) ?_
  refine sr_nil (hK12 _ _ ?_)
  refine sc_cond (ev_t rfl) (fun h4 => ?_) (fun h4 => ?_)
  · replace h4 : letterB (cAt s p) = true := h4
    have hn := runN_pos (q := isAlnum) hp (by rw [isAlnum, h4]; rfl)
    have hf := runN_fit isAlnum hp
    have e : ((p : Int) + (runN isAlnum (s.drop p) : Nat)).toNat - (p : Int).toNat = runN isAlnum (s.drop p) := by omega
    refine sc_seq fun K13 hK13 => ?_
    refine sc_text [3, 1, 3] ?_
    refine sr_pu rfl (fun _ => rd_move (ev_t rfl)) ?_
    refine sr_pure rfl (rc_call go_scan_scanner_run ev_f (args_cons (ev_t rfl) (args_cons ev_f (args_nil))) rfl) (run_ok base b s p ts cs _ ((hs.grow g).scn k1 k2 k3 k4) _ isAlnum go_scan_scanner_next_2 alnum_ok) (fun w118 g118 => ?_)
    have g := g.trans (g118)
    refine sr_pu rfl (fun _ => rd_assign (ev_t rfl)) ?_
    refine sr_sub [(0, _, _), (2, _, _), (5, _, _)] (sub_cons rfl (sub_cons rfl (sub_cons rfl (sub_nil _)))) ?_
    refine sr_nil (hK13 _ _ ?_)
    refine sc_seq fun K14 hK14 => ?_
    refine sc_seq fun K15 hK15 => ?_
    refine sc_text [3, 3] ?_
    refine sr_pu rfl (fun _ => rd_move (ev_t rfl)) ?_
    refine sr_pu rfl (fun _ => rd_gt (ev_t rfl) ev_c) ?_
    refine sr_sub [(0, _, _), (2, _, _), (5, _, _), (120, _, _)] (sub_cons rfl (sub_cons rfl (sub_cons rfl (sub_cons rfl (sub_nil _))))) ?_
    refine sr_nil (hK15 _ _ ?_)
    refine sc_cond (ev_t rfl) (fun h5 => ?_) (fun h5 => ?_)
    · have hN : nextF s p ts cs = (p, ts, cs, 3) := by unfold nextF; rw [h1, h2, h3, h4, h5]; rfl
      have hs' := (hs.grow g).scn k1 k2 k3 k4
      have hb' := below_g g hs.base_le
      refine sc_seq fun K16 hK16 => ?_
      refine sc_text [3] ?_
      refine sr_pu rfl (fun _ => rd_assign ev_c) ?_
      refine sr_sub [(0, _, _), (2, _, _), (5, _, _)] (sub_cons rfl (sub_cons rfl (sub_cons rfl (sub_nil _)))) ?_
      refine sr_nil (hK16 _ _ ?_)
      refine sc_ret (t_ret1 rfl rfl ?_)
      rw [hN]; exact ⟨rfl, hs', hb'⟩
    (try simp only [bsimp] at h5)
    refine sc_skip (hK14 _ _ ?_)
    refine sc_sub [(0, _, _), (2, _, _), (5, _, _)] (sub_cons rfl (sub_cons rfl (sub_cons rfl (sub_nil _)))) ?_
    refine sc_seq fun K17 hK17 => ?_
    refine sc_text [3] ?_
    refine sr_pu rfl (fun _ => rd_assign ev_c) ?_
    refine sr_nil (hK17 _ _ ?_)
    refine sc_seq fun K18 hK18 => ?_
    refine sc_seq fun K19 hK19 => ?_
    refine sc_draw [3, 3, 3, 0, 3, 3, 3, 0, 3, 3, 3, 0, 3, 3, 3, 1] [true, true, true, true, true, true, true, true, true, true, true, true, true, true, true, true] [0, 1, 3, 7, 0, 16, 48, 112, 0, 256, 768, 1792, 0, 7936, 16383, 32767] mix (by kernel_rfl) ?_
    have g := g.trans (G.drew _)
    refine sr_pu rfl (fun _ => rd_move (ev_t rfl)) ?_
    refine sr_pu rfl (fun _ => rd_nil (ev_t rfl)) ?_
    refine sr_pu rfl (fun _ => rd_field fo_scan_scanner_0 (ev_t rfl)) ?_
    refine sr_rd rfl (rd_load one_string (ev_t rfl) (fun _ => by first | exact (hs.grow g).B.at_ rfl)) ?_
    refine sr_pu rfl (fun _ => rd_move (ev_t rfl)) ?_
    refine sr_pu rfl (fun _ => rd_nil (ev_t rfl)) ?_
    refine sr_pu rfl (fun _ => rd_field fo_scan_scanner_1 (ev_t rfl)) ?_
    refine sr_rd rfl (rd_load one_int (ev_t rfl) (fun _ => by first | exact (hs.grow g).B.at_ rfl)) ?_
    refine sr_pu rfl (fun _ => rd_move (ev_t rfl)) ?_
    refine sr_pu rfl (fun _ => rd_nil (ev_t rfl)) ?_
    refine sr_pu rfl (fun _ => rd_field fo_scan_scanner_1 (ev_t rfl)) ?_
    refine sr_rd rfl (rd_load one_int (ev_t rfl) (fun _ => by first | exact (hs.grow g).B.at_ rfl)) ?_
    refine sr_pu rfl (fun _ => rd_move (ev_t rfl)) ?_
    refine sr_pu rfl (fun _ => rd_add (ev_t rfl) (ev_t rfl) (fun _ => by omega)) ?_
    refine sr_pu rfl (fun _ => rd_ssl str_string (ev_t rfl) (ev_t rfl) (ev_t rfl) (fun _ => by omega)) ?_
    refine sr_pure rfl (rc_call go_scan_Keyword ev_f (args_cons (ev_t rfl) (args_nil)) rfl) (keyword_ok _ _) (fun w136 g136 => ?_)
    have g := g.trans (g136)
    refine sr_sub [(0, _, _), (2, _, _), (5, _, _), (6, _, _), (136, _, _)] (sub_cons rfl (sub_cons rfl (sub_cons rfl (sub_cons rfl (sub_cons rfl (sub_nil _)))))) ?_
    refine sr_nil (hK19 _ _ ?_)
    refine sc_cond (ev_t rfl) (fun h6 => ?_) (fun h6 => ?_)
    · rw [e] at h6
      replace h6 : inB kws ((s.drop p).take (runN isAlnum (s.drop p))) = true := h6
      have hN : nextF s p ts cs = (p + runN isAlnum (s.drop p), ts ++ [⟨3, (s.drop p).take (runN isAlnum (s.drop p)), p⟩], cs, 0) := by unfold nextF; rw [h1, h2, h3, h4, h5, wordK, h6]; rfl
      refine sc_text [3] ?_
      refine sr_pu rfl (fun _ => rd_assign ev_c) ?_
      refine sr_sub [(0, _, _), (2, _, _), (5, _, _), (6, _, _)] (sub_cons rfl (sub_cons rfl (sub_cons rfl (sub_cons rfl (sub_nil _))))) ?_
      refine sr_nil (hK18 _ _ ?_)
      refine sc_text [3, 3, 3, 2] ?_
      refine sr_pu rfl (fun _ => rd_move (ev_t rfl)) ?_
      refine sr_pu rfl (fun _ => rd_move (ev_t rfl)) ?_
      refine sr_pu rfl (fun _ => rd_move (ev_t rfl)) ?_
      refine sr_call rfl (rc_call go_scan_scanner_put ev_f (args_cons (ev_t rfl) (args_cons (ev_t rfl) (args_cons (ev_t rfl) (args_nil)))) rfl) (put_ok base b s p ts cs _ _ _ ((hs.grow g).scn k1 k2 k3 k4) hn hf) ?_
      rintro v140 w140 ⟨rfl, hs', hb'⟩
      refine ⟨fun h => absurd h (by decide), ?_⟩
      have hb' := (below_g g hs.base_le).trans hb'
      refine sr_sub [(2, _, _)] (sub_cons rfl (sub_nil _)) ?_
      refine sr_nil (hK3 _ _ ?_)
      refine sc_seq fun K20 hK20 => ?_
      refine sc_text [3] ?_
      refine sr_pu rfl (fun _ => rd_assign ev_c) ?_
      refine sr_nil (hK20 _ _ ?_)
      refine sc_ret (t_ret1 rfl rfl ?_)
      rw [hN]; exact ⟨rfl, hs', hb'⟩
    rw [e] at h6
    replace h6 : inB kws ((s.drop p).take (runN isAlnum (s.drop p))) = false := h6
    have hN : nextF s p ts cs = (p + runN isAlnum (s.drop p), ts ++ [⟨1, (s.drop p).take (runN isAlnum (s.drop p)), p⟩], cs, 0) := by unfold nextF; rw [h1, h2, h3, h4, h5, wordK, h6]; rfl
    refine sc_skip (hK18 _ _ ?_)
    refine sc_sub [(0, _, _), (2, _, _), (5, _, _), (6, _, _)] (sub_cons rfl (sub_cons rfl (sub_cons rfl (sub_cons rfl (sub_nil _))))) ?_
    refine sc_text [3, 3, 3, 2] ?_
    refine sr_pu rfl (fun _ => rd_move (ev_t rfl)) ?_
    refine sr_pu rfl (fun _ => rd_move (ev_t rfl)) ?_
    refine sr_pu rfl (fun _ => rd_move (ev_t rfl)) ?_
    refine sr_call rfl (rc_call go_scan_scanner_put ev_f (args_cons (ev_t rfl) (args_cons (ev_t rfl) (args_cons (ev_t rfl) (args_nil)))) rfl) (put_ok base b s p ts cs _ _ _ ((hs.grow g).scn k1 k2 k3 k4) hn hf) ?_
    rintro v140 w140 ⟨rfl, hs', hb'⟩
    refine ⟨fun h => absurd h (by decide), ?_⟩
    have hb' := (below_g g hs.base_le).trans hb'
    refine sr_sub [(2, _, _)] (sub_cons rfl (sub_nil _)) ?_
    refine sr_nil (hK3 _ _ ?_)
    refine sc_seq fun K21 hK21 => ?_
    refine sc_text [3] ?_
    refine sr_pu rfl (fun _ => rd_assign ev_c) ?_
    refine sr_nil (hK21 _ _ ?_)
    refine sc_ret (t_ret1 rfl rfl ?_)
    rw [hN]; exact ⟨rfl, hs', hb'⟩
  replace h4 : letterB (cAt s p) = false := h4
  refine sc_seq fun K22 hK22 => ?_
  refine sc_text [3, 1, 3] ?_
  refine sr_pu rfl (fun _ => rd_move (ev_t rfl)) ?_
  refine sr_pure rfl (rc_call go_scan_digit ev_f (args_cons (ev_t rfl) (args_nil)) rfl) (digit_ok _ _) (fun w143 g143 => ?_)
  have g := g.trans (g143)
  refine sr_pu rfl (fun _ => rd_assign (ev_t rfl)) ?_
  refine sr_sub [(0, _, _), (2, _, _), (3, _, _), (141, _, _)] (sub_cons rfl (sub_cons rfl (sub_cons rfl (sub_cons rfl (sub_nil _))))) ?_
  refine sr_nil (hK22 _ _ ?_)
  refine sc_cond (ev_t rfl) (fun h7 => ?_) (fun h7 => ?_)
  · replace h7 : digitB (cAt s p) = true := h7
    have hn := runN_pos (q := digitB) hp h7
    have hf := runN_fit digitB hp
    have e : ((p : Int) + (runN digitB (s.drop p) : Nat)).toNat - (p : Int).toNat = runN digitB (s.drop p) := by omega
    refine sc_seq fun K23 hK23 => ?_
    refine sc_text [3, 1, 3] ?_
    refine sr_pu rfl (fun _ => rd_move (ev_t rfl)) ?_
    refine sr_pure rfl (rc_call go_scan_scanner_run ev_f (args_cons (ev_t rfl) (args_cons ev_f (args_nil))) rfl) (run_ok base b s p ts cs _ ((hs.grow g).scn k1 k2 k3 k4) _ digitB go_scan_digit digit_ok) (fun w145 g145 => ?_)
    have g := g.trans (g145)
    refine sr_pu rfl (fun _ => rd_assign (ev_t rfl)) ?_
    refine sr_sub [(0, _, _), (2, _, _), (3, _, _), (7, _, _)] (sub_cons rfl (sub_cons rfl (sub_cons rfl (sub_cons rfl (sub_nil _))))) ?_
    refine sr_nil (hK23 _ _ ?_)
    refine sc_seq fun K24 hK24 => ?_
    refine sc_seq fun K25 hK25 => ?_
    refine sc_draw [3, 3, 3, 3, 3, 3, 3, 3, 3, 3, 0, 3, 3, 3, 3, 3, 0, 3, 3, 3, 3, 3, 3, 0, 3, 3, 3, 0, 3, 3, 3, 1, 3, 3] [true, true, true, true, true, true, true, true, true, true, true, true, true, true, true, true, true, true, true, true, true, true, true, true, true, true, true, true, true, true, true, true, true, true] [0, 1, 3, 7, 15, 31, 63, 127, 255, 511, 1023, 127, 4095, 127, 8319, 24703, 57471, 123007, 262143, 524287, 1048575, 2097151, 4194303, 8388607, 1048575, 17825791, 51380223, 118489087, 1048575, 521142271, 1073741823, 2147483647, 4294967295, 8589934591] mix (by kernel_rfl) ?_
    have g := g.trans (G.drew _)
    refine sr_pu rfl (fun _ => rd_move (ev_t rfl)) ?_
    refine sr_pu rfl (fun _ => rd_eq (ev_t rfl) ev_c) ?_
    refine sr_pu rfl (fun _ => rd_move (ev_t rfl)) ?_
    refine sr_pug rfl rfl rfl (fun _ => rd_move (ev_t rfl)) ?_
    refine sr_pug rfl rfl rfl (fun _ => rd_gt (ev_u rfl id) ev_c) ?_
    refine sr_pu rfl (fun _ => rd_pick_and (ev_t rfl) (ev_u rfl id)) ?_
    refine sr_pu rfl (fun _ => rd_move (ev_t rfl)) ?_
    refine sr_pug rfl rfl rfl (fun _ => rd_move (ev_t rfl)) ?_
    refine sr_pug rfl rfl rfl (fun _ => rd_nil (ev_u rfl id)) ?_
    refine sr_pug rfl rfl rfl (fun _ => rd_field fo_scan_scanner_1 (ev_u rfl id)) ?_
    refine sr_rdg rfl rfl rfl (rd_load one_int (ev_u rfl id) (fun _ => by first | exact (hs.grow g).B.at_ rfl)) ?_
    refine sr_pug rfl rfl rfl (fun _ => rd_move (ev_t rfl)) ?_
    refine sr_pug rfl rfl rfl (fun _ => rd_add (ev_u rfl id) (ev_u rfl id) (fun _ => by omega)) ?_
    refine sr_pug rfl rfl rfl (fun _ => rd_move (ev_t rfl)) ?_
    refine sr_pug rfl rfl rfl (fun _ => rd_nil (ev_u rfl id)) ?_
    refine sr_pug rfl rfl rfl (fun _ => rd_field fo_scan_scanner_0 (ev_u rfl id)) ?_
    refine sr_rdg rfl rfl rfl (rd_load one_string (ev_u rfl id) (fun _ => by first | exact (hs.grow g).B.at_ rfl)) ?_
    refine sr_pug rfl rfl rfl (fun _ => rd_slen str_string (ev_u rfl id)) ?_
    refine sr_pug rfl rfl rfl (fun _ => rd_lt (ev_u rfl id) (ev_u rfl id)) ?_
    refine sr_pug rfl rfl rfl (fun _ => rd_move (ev_u rfl id)) ?_
    refine sr_pug rfl rfl rfl (fun _ => rd_move (ev_t rfl)) ?_
    refine sr_pug rfl rfl rfl (fun _ => rd_nil (ev_u rfl id)) ?_
    refine sr_pug rfl rfl rfl (fun _ => rd_field fo_scan_scanner_0 (ev_u rfl id)) ?_
    refine sr_rdg rfl rfl rfl (rd_load one_string (ev_u rfl id) (fun _ => by first | exact (hs.grow g).B.at_ rfl)) ?_
    refine sr_pug rfl rfl rfl (fun _ => rd_move (ev_t rfl)) ?_
    refine sr_pug rfl rfl rfl (fun _ => rd_nil (ev_u rfl id)) ?_
    refine sr_pug rfl rfl rfl (fun _ => rd_field fo_scan_scanner_1 (ev_u rfl id)) ?_
    refine sr_rdg rfl rfl rfl (rd_load one_int (ev_u rfl id) (fun _ => by first | exact (hs.grow g).B.at_ rfl)) ?_
    refine sr_pug rfl rfl rfl (fun _ => rd_move (ev_t rfl)) ?_
    refine sr_pug rfl rfl rfl (fun _ => rd_add (ev_u rfl id) (ev_u rfl id) (fun _ => by omega)) ?_
    refine sr_pug rfl rfl rfl (fun _ => rd_sidx str_string (ev_u rfl id) (ev_u rfl id) (fun hc => by have := of_decide_eq_true hc.2; omega)) ?_
    refine sr_pureg rfl rfl rfl (fun _ => (rc_call go_scan_letter ev_f (args_cons (ev_u rfl id) (args_nil)) rfl)) (fun hc => letter_ok _ _) (fun w177 g177 => ?_)
    have g := g.trans (g177)
    refine sr_pug rfl rfl rfl (fun _ => rd_pick_and (ev_u rfl id) (ev_u rfl id)) ?_
    refine sr_pu rfl (fun _ => rd_pick_or (ev_t rfl) (ev_u rfl id)) ?_
    refine sr_sub [(0, _, _), (2, _, _), (7, _, _), (179, _, _)] (sub_cons rfl (sub_cons rfl (sub_cons rfl (sub_cons rfl (sub_nil _))))) ?_
    refine sr_nil (hK25 _ _ ?_)
    refine sc_cond (ev_t rfl) (fun h8 => ?_) (fun h8 => ?_)
    · replace h8 : badD s p (runN digitB (s.drop p)) = true := h8
      have hN : nextF s p ts cs = (p, ts, cs, 4) := by unfold nextF; rw [h1, h2, h3, h4, h7, h8]; rfl
      have hs' := (hs.grow g).scn k1 k2 k3 k4
      have hb' := below_g g hs.base_le
      refine sc_seq fun K26 hK26 => ?_
      refine sc_text [3] ?_
      refine sr_pu rfl (fun _ => rd_assign ev_c) ?_
      refine sr_sub [(0, _, _), (2, _, _), (7, _, _)] (sub_cons rfl (sub_cons rfl (sub_cons rfl (sub_nil _)))) ?_
      refine sr_nil (hK26 _ _ ?_)
      refine sc_ret (t_ret1 rfl rfl ?_)
      rw [hN]; exact ⟨rfl, hs', hb'⟩
    replace h8 : badD s p (runN digitB (s.drop p)) = false := h8
    obtain ⟨ev, he1, he2⟩ := hL.err
    have hdl : ((s.drop p).take (runN digitB (s.drop p))).length = runN digitB (s.drop p) := by rw [List.length_take, List.length_drop]; omega
    refine sc_skip (hK24 _ _ ?_)
    refine sc_sub [(0, _, _), (2, _, _), (7, _, _)] (sub_cons rfl (sub_cons rfl (sub_cons rfl (sub_nil _)))) ?_
    refine sc_seq fun K27 hK27 => ?_
    refine sc_seq fun K28 hK28 => ?_
    refine sc_draw [3, 3, 3, 0, 3, 3, 3, 0, 3, 3, 3, 0, 3, 3, 3, 1, 3, 3, 3, 3, 3] [true, true, true, true, true, true, true, true, true, true, true, true, true, true, true, true, true, true, true, true, true] [0, 1, 3, 7, 0, 16, 48, 112, 0, 256, 768, 1792, 0, 7936, 16383, 32767, 65535, 131071, 131071, 262143, 1048575] mix (by kernel_rfl) ?_
    have g := g.trans (G.drew _)
    refine sr_pu rfl (fun _ => rd_move (ev_t rfl)) ?_
    refine sr_pu rfl (fun _ => rd_nil (ev_t rfl)) ?_
    refine sr_pu rfl (fun _ => rd_field fo_scan_scanner_0 (ev_t rfl)) ?_
    refine sr_rd rfl (rd_load one_string (ev_t rfl) (fun _ => by first | exact (hs.grow g).B.at_ rfl)) ?_
    refine sr_pu rfl (fun _ => rd_move (ev_t rfl)) ?_
    refine sr_pu rfl (fun _ => rd_nil (ev_t rfl)) ?_
    refine sr_pu rfl (fun _ => rd_field fo_scan_scanner_1 (ev_t rfl)) ?_
    refine sr_rd rfl (rd_load one_int (ev_t rfl) (fun _ => by first | exact (hs.grow g).B.at_ rfl)) ?_
    refine sr_pu rfl (fun _ => rd_move (ev_t rfl)) ?_
    refine sr_pu rfl (fun _ => rd_nil (ev_t rfl)) ?_
    refine sr_pu rfl (fun _ => rd_field fo_scan_scanner_1 (ev_t rfl)) ?_
    refine sr_rd rfl (rd_load one_int (ev_t rfl) (fun _ => by first | exact (hs.grow g).B.at_ rfl)) ?_
    refine sr_pu rfl (fun _ => rd_move (ev_t rfl)) ?_
    refine sr_pu rfl (fun _ => rd_add (ev_t rfl) (ev_t rfl) (fun _ => by omega)) ?_
    refine sr_pu rfl (fun _ => rd_ssl str_string (ev_t rfl) (ev_t rfl) (ev_t rfl) (fun _ => by omega)) ?_
    refine sr_call rfl (rc_call go_strconv_ParseInt ev_f (args_cons (ev_t rfl) (args_cons ev_c (args_cons ev_c (args_nil)))) rfl) (parse_ok _ (by rw [e]; exact digits_allD s p) (by rw [e]; intro h0; have h0 := congrArg List.length h0; rw [show (List.take (runN digitB (s.drop p)) (List.drop (p : Int).toNat s)).length = runN digitB (s.drop p) from hdl] at h0; simp at h0; omega) (by rw [e]; show ((s.drop p).take (runN digitB (s.drop p))).length ≤ 20000; omega) _ ev (cell_grow g he1) he2) ?_
    rintro v196 w196 ⟨⟨x, er, rfl, her, hnil⟩, g196⟩
    refine ⟨fun _ => g196, ?_⟩
    have g := g.trans g196
    replace hnil : nilV er = decide (valN 0 ((s.drop p).take (runN digitB (s.drop p))) < 9223372036854775808) := by rw [e] at hnil; exact hnil
    refine sr_pu rfl (fun _ => rd_move (ev_t rfl)) ?_
    refine sr_pu rfl (fun _ => rd_extract (ev_t rfl) rfl) ?_
    refine sr_pu rfl (fun _ => rd_extract (ev_t rfl) rfl) ?_
    refine sr_pu rfl (fun _ => rd_assign (ev_t rfl)) ?_
    refine sr_pu rfl (fun _ => rd_assign (ev_t rfl)) ?_
    refine sr_sub [(0, _, _), (2, _, _), (7, _, _), (9, _, _)] (sub_cons rfl (sub_cons rfl (sub_cons rfl (sub_cons rfl (sub_nil _))))) ?_
    refine sr_nil (hK28 _ _ ?_)
    refine sc_seq fun K29 hK29 => ?_
    refine sc_text [3, 3] ?_
    refine sr_pu rfl (fun _ => rd_move (ev_t rfl)) ?_
    refine sr_pu rfl (fun _ => rd_ine if_error (ev_t rfl) her) ?_
    refine sr_sub [(0, _, _), (2, _, _), (7, _, _), (200, _, _)] (sub_cons rfl (sub_cons rfl (sub_cons rfl (sub_cons rfl (sub_nil _))))) ?_
    refine sr_nil (hK29 _ _ ?_)
    refine sc_cond (ev_t rfl) (fun h9 => ?_) (fun h9 => ?_)
    · have h9 : decide (valN 0 ((s.drop p).take (runN digitB (s.drop p))) < 9223372036854775808) = false := by replace h9 : (!nilV er) = true := h9; rw [hnil] at h9; simpa using h9
      have hN : nextF s p ts cs = (p, ts, cs, 4) := by unfold nextF; rw [h1, h2, h3, h4, h7, h8, h9]; rfl
      have hs' := (hs.grow g).scn k1 k2 k3 k4
      have hb' := below_g g hs.base_le
      refine sc_seq fun K30 hK30 => ?_
      refine sc_text [3] ?_
      refine sr_pu rfl (fun _ => rd_assign ev_c) ?_
      refine sr_sub [(0, _, _), (2, _, _), (7, _, _)] (sub_cons rfl (sub_cons rfl (sub_cons rfl (sub_nil _)))) ?_
      refine sr_nil (hK30 _ _ ?_)
      refine sc_ret (t_ret1 rfl rfl ?_)
      rw [hN]; exact ⟨rfl, hs', hb'⟩
    have h9 : decide (valN 0 ((s.drop p).take (runN digitB (s.drop p))) < 9223372036854775808) = true := by replace h9 : (!nilV er) = false := h9; rw [hnil] at h9; simpa using h9
    have hN : nextF s p ts cs = (p + runN digitB (s.drop p), ts ++ [⟨2, (s.drop p).take (runN digitB (s.drop p)), p⟩], cs, 0) := by unfold nextF; rw [h1, h2, h3, h4, h7, h8, h9]; rfl
    refine sc_skip (hK27 _ _ ?_)
    refine sc_sub [(0, _, _), (2, _, _), (7, _, _)] (sub_cons rfl (sub_cons rfl (sub_cons rfl (sub_nil _)))) ?_
    refine sc_text [3, 3, 2] ?_
    refine sr_pu rfl (fun _ => rd_move (ev_t rfl)) ?_
    refine sr_pu rfl (fun _ => rd_move (ev_t rfl)) ?_
    refine sr_call rfl (rc_call go_scan_scanner_put ev_f (args_cons (ev_t rfl) (args_cons ev_c (args_cons (ev_t rfl) (args_nil)))) rfl) (put_ok base b s p ts cs _ _ _ ((hs.grow g).scn k1 k2 k3 k4) hn hf) ?_
    rintro v203 w203 ⟨rfl, hs', hb'⟩
    refine ⟨fun h => absurd h (by decide), ?_⟩
    have hb' := (below_g g hs.base_le).trans hb'
    refine sr_sub [(2, _, _)] (sub_cons rfl (sub_nil _)) ?_
    refine sr_nil (hK3 _ _ ?_)
    refine sc_seq fun K31 hK31 => ?_
    refine sc_text [3] ?_
    refine sr_pu rfl (fun _ => rd_assign ev_c) ?_
    refine sr_nil (hK31 _ _ ?_)
    refine sc_ret (t_ret1 rfl rfl ?_)
    rw [hN]; exact ⟨rfl, hs', hb'⟩
  replace h7 : digitB (cAt s p) = false := h7
  refine sc_seq fun K32 hK32 => ?_
  refine sc_seq fun K33 hK33 => ?_
  refine sc_text [0, 3] ?_
  refine sr_rd rfl (rd_loads agg_27_string ev_g rfl (fun _ => (hL.grow g).ops)) ?_
  refine sr_pu rfl (fun _ => rd_move ev_c) ?_
  refine sr_sub [(0, _, _), (2, _, _), (21, _, _), (22, _, _)] (sub_cons rfl (sub_cons rfl (sub_cons rfl (sub_cons rfl (sub_nil _))))) ?_
  refine sr_nil (hK33 _ _ ?_)
  refine sc_block ?_
  refine sc_loop (fun (i : Nat) u => i ≤ 27 ∧ (∀ j < i, preB (opsL.getD j []) (s.drop p) = false) ∧ G w u) (fun i => [(0, True, .pointer (some ⟨b, 0, none⟩)), (21, True, .agg (opsL.map Str).toArray), (22, True, .int .i64 i)]) (fun i => 27 - i) 0 ⟨by omega, by intro j hj; omega, g⟩ (sub_cons rfl (sub_cons rfl (sub_cons rfl (sub_nil _)))) ?_
  rintro i u ⟨hi, hpre, g⟩
  refine sc_seq fun K34 hK34 => ?_
  refine sc_text [3] ?_
  refine sr_pu rfl (fun _ => rd_lt (ev_t rfl) ev_c) ?_
  refine sr_nil (hK34 _ _ ?_)
  refine sc_seq fun K35 hK35 => ?_
  refine sc_cond (ev_t rfl) (fun h10 => ?_) (fun h10 => ?_)
  · simp only [decide_eq_true_eq] at h10
    have hi27 : i < 27 := by omega
    refine sc_skip (hK35 _ _ ?_)
    refine sc_sub [(0, _, _), (21, _, _), (22, _, _)] (sub_cons rfl (sub_cons rfl (sub_cons rfl (sub_nil _)))) ?_
    refine sc_seq fun K36 hK36 => ?_
    refine sc_block ?_
    refine sc_seq fun K37 hK37 => ?_
    refine sc_text [3, 3] ?_
    refine sr_pu rfl (fun _ => rd_aidx ar_27_string (ev_t rfl) (ev_t rfl) (fun _ => by omega) (fun _ => opsL_at hi27)) ?_
    refine sr_pu rfl (fun _ => rd_assign (ev_t rfl)) ?_
    refine sr_sub [(0, _, _), (11, _, _), (21, _, _), (22, _, _)] (sub_cons rfl (sub_cons rfl (sub_cons rfl (sub_cons rfl (sub_nil _))))) ?_
    refine sr_nil (hK37 _ _ ?_)
    refine sc_seq fun K38 hK38 => ?_
    refine sc_draw [3, 3, 3, 0, 3, 3, 3, 0, 3, 3, 1] [true, true, true, true, true, true, true, true, true, true, true] [0, 1, 3, 7, 0, 16, 48, 112, 255, 0, 1023] mix (by kernel_rfl) ?_
    have g := g.trans (G.drew _)
    refine sr_pu rfl (fun _ => rd_move (ev_t rfl)) ?_
    refine sr_pu rfl (fun _ => rd_nil (ev_t rfl)) ?_
    refine sr_pu rfl (fun _ => rd_field fo_scan_scanner_0 (ev_t rfl)) ?_
    refine sr_rd rfl (rd_load one_string (ev_t rfl) (fun _ => by first | exact (hs.grow g).B.at_ rfl)) ?_
    refine sr_pu rfl (fun _ => rd_move (ev_t rfl)) ?_
    refine sr_pu rfl (fun _ => rd_nil (ev_t rfl)) ?_
    refine sr_pu rfl (fun _ => rd_field fo_scan_scanner_1 (ev_t rfl)) ?_
    refine sr_rd rfl (rd_load one_int (ev_t rfl) (fun _ => by first | exact (hs.grow g).B.at_ rfl)) ?_
    refine sr_pu rfl (fun _ => rd_ssl_from str_string (ev_t rfl) (ev_t rfl) (fun _ => by omega)) ?_
    refine sr_pu rfl (fun _ => rd_move (ev_t rfl)) ?_
    refine sr_pure rfl (rc_call go_strings_HasPrefix ev_f (args_cons (ev_t rfl) (args_cons (ev_t rfl) (args_nil))) rfl) (shasprefix_ok _ _ _) (fun w35 g35 => ?_)
    have g := g.trans (g35)
    refine sr_sub [(0, _, _), (11, _, _), (21, _, _), (22, _, _), (35, _, _)] (sub_cons rfl (sub_cons rfl (sub_cons rfl (sub_cons rfl (sub_cons rfl (sub_nil _)))))) ?_
    refine sr_nil (hK38 _ _ ?_)
    refine sc_cond (ev_t rfl) (fun h11 => ?_) (fun h11 => ?_)
    · replace h11 : preB (opsL.getD i []) (s.drop p) = true := h11
      have h0 := opLen_some hi27 hpre h11
      have hn := opsL_pos i hi27
      have hf : p + (opsL.getD i []).length ≤ s.length := by have := (preB_len h11).1; rw [List.length_drop] at this; omega
      have hN : nextF s p ts cs = (p + (opsL.getD i []).length, ts ++ [⟨4, (s.drop p).take (opsL.getD i []).length, p⟩], cs, 0) := by
        unfold nextF; rw [h1, h2, h3, h4, h7, h0, show Nat.beq (opsL.getD i []).length 0 = false by rw [Bool.eq_false_iff]; intro h; have := Nat.eq_of_beq_eq_true h; omega]; rfl
      refine sc_seq fun K39 hK39 => ?_
      refine sc_text [3, 3, 3, 2] ?_
      refine sr_pu rfl (fun _ => rd_move (ev_t rfl)) ?_
      refine sr_pu rfl (fun _ => rd_move (ev_t rfl)) ?_
      refine sr_pu rfl (fun _ => rd_slen str_string (ev_t rfl)) ?_
      refine sr_call rfl (rc_call go_scan_scanner_put ev_f (args_cons (ev_t rfl) (args_cons ev_c (args_cons (ev_t rfl) (args_nil)))) rfl) (put_ok base b s p ts cs _ _ _ ((hs.grow g).scn k1 k2 k3 k4) hn hf) ?_
      rintro v39 w39 ⟨rfl, hs', hb'⟩
      refine ⟨fun h => absurd h (by decide), ?_⟩
      have hb' := (below_g g hs.base_le).trans hb'
      refine sr_sub [(0, _, _), (21, _, _), (22, _, _)] (sub_cons rfl (sub_cons rfl (sub_cons rfl (sub_nil _)))) ?_
      refine sr_nil (hK39 _ _ ?_)
      refine sc_seq fun K40 hK40 => ?_
      refine sc_text [3] ?_
      refine sr_pu rfl (fun _ => rd_assign ev_c) ?_
      refine sr_nil (hK40 _ _ ?_)
      refine sc_sub [(0, _, _), (2, _, _), (21, _, _), (22, _, _)] (sub_cons rfl (sub_cons rfl (sub_cons rfl (sub_cons rfl (sub_nil _))))) ?_
      refine sc_ret (t_ret1 rfl rfl ?_)
      rw [hN]; exact ⟨rfl, hs', hb'⟩
    (try simp only [bsimp] at h11)
    refine sc_skip (hK36 _ _ ?_)
    refine sc_sub [(0, _, _), (21, _, _), (22, _, _)] (sub_cons rfl (sub_cons rfl (sub_cons rfl (sub_nil _)))) ?_
    refine sc_text [3, 3] ?_
    refine sr_pu rfl (fun _ => rd_add (ev_t rfl) ev_c (fun _ => by omega)) ?_
    refine sr_pu rfl (fun _ => rd_move (ev_t rfl)) ?_
    refine sr_sub [(0, _, _), (21, _, _), (22, _, _)] (sub_cons rfl (sub_cons rfl (sub_cons rfl (sub_nil _)))) ?_
    refine sr_nil (fun a ha => ?_)
    exact ⟨i + 1, ha, ⟨by omega, by
      intro j hj
      by_cases e : j = i
      · rw [e]; exact h11
      · exact hpre j (by omega), g⟩, by omega⟩
  simp only [decide_eq_false_iff_not] at h10
  have hi27 : i = 27 := by omega
  subst hi27
  have h0 := opLen_none hpre
  have hN : nextF s p ts cs = (p, ts, cs, 4) := by unfold nextF; rw [h1, h2, h3, h4, h7, h0]; rfl
  have hs' := (hs.grow g).scn k1 k2 k3 k4
  have hb' := below_g g hs.base_le
  refine sc_exit rfl (hK32 _ _ ?_)
  refine sc_sub [] (sub_nil _) ?_
  refine sc_seq fun K41 hK41 => ?_
  refine sc_text [3] ?_
  refine sr_pu rfl (fun _ => rd_assign ev_c) ?_
  refine sr_nil (hK41 _ _ ?_)
  refine sc_ret (t_ret1 rfl rfl ?_)
  rw [hN]; exact ⟨rfl, hs', hb'⟩
end Go.Rk
namespace Go.Rk
open Go Go.RowKit
def goF (s : List UInt8) : Nat → Nat → List Tok → List Tok → Nat × List Tok × List Tok × Int
  | 0, p, ts, cs => (p, ts, cs, 0)
  | f + 1, p, ts, cs => bif decide (p < s.length) then bif decide ((nextF s p ts cs).2.2.2 = 0) then goF s f (nextF s p ts cs).1 (nextF s p ts cs).2.1 (nextF s p ts cs).2.2.1 else nextF s p ts cs else (p, ts, cs, 0)
def allF (s : List UInt8) : Nat × List Tok × List Tok × Int := bif decide ((20000 : Int) < s.length) then (0, [], [], 3) else goF s s.length 0 [] []
theorem nextF_lt {s : List UInt8} {p : Nat} {ts cs : List Tok} (h : p < s.length) (he : (nextF s p ts cs).2.2.2 = 0) : p < (nextF s p ts cs).1 := by
  unfold nextF at he ⊢
  cases h1 : decide (cAt s p = 10)
  · cases h2 : ((decide (cAt s p = 32) || decide (cAt s p = 9)) || decide (cAt s p = 13))
    · cases h3 : preB [47, 47] (s.drop p)
      · cases h4 : letterB (cAt s p)
        · cases h7 : digitB (cAt s p)
          · cases h8 : Nat.beq (opLen (s.drop p)) 0
            · simp only [cond_true, cond_false]
              have : opLen (s.drop p) ≠ 0 := by intro h0; rw [h0] at h8; cases h8
              omega
            · rw [h1, h2, h3, h4, h7, h8] at he; simp at he
          · have := runN_pos (q := digitB) h h7
            rw [h1, h2, h3, h4, h7] at he
            cases h8 : badD s p (runN digitB (s.drop p))
            · rw [h8] at he
              cases h9 : decide (valN 0 ((s.drop p).take (runN digitB (s.drop p))) < 9223372036854775808)
              · rw [h9] at he; simp at he
              · simp only [cond_true, cond_false]; omega
            · rw [h8] at he; simp at he
        · have := runN_pos (q := isAlnum) h (by rw [isAlnum, h4]; rfl)
          rw [h1, h2, h3, h4] at he
          cases h5 : decide ((32 : Int) < runN isAlnum (s.drop p))
          · simp only [cond_true, cond_false]; omega
          · rw [h5] at he; simp at he
      · have := runN_pos (q := isNotLf) h (by rw [isNotLf, h1]; rfl)
        simp only [cond_true, cond_false]; omega
    · simp only [cond_true, cond_false]; omega
  · simp only [cond_true, cond_false]; omega
theorem all_ok (s : List UInt8) (w : World) (hL : Laid w) (hb3 : 4 ≤ w.heap.size) :
    Ret PP fn_scan_all #[Str s] w fun v w' => ∃ b ta tc ca cc, v = .tuple #[.pointer (some ⟨b, 0, none⟩), .int .i64 (allF s).2.2.2] ∧ SA w.heap.size b s (allF s).1 (allF s).2.1 (allF s).2.2.1 ta tc ca cc w' ∧ G w w' := by
  have g := G.refl w
  refine ret_of_sc (m := 27) func_scan_all rfl rfl [(0, True, _)] (sub_cons rfl (sub_nil _)) ?_
  refine sc_seq fun K1 hK1 => ?_
  refine sc_text [3, 3] ?_
  refine sr_pu rfl (fun _ => rd_assign ev_c) ?_
  refine sr_pu rfl (fun _ => rd_assign ev_c) ?_
  refine sr_nil (hK1 _ _ ?_)
  refine sc_seq fun K2 hK2 => ?_
  refine sc_text [3, 3, 1, 3] ?_
  refine sr_pu rfl (fun _ => rd_move (ev_t rfl)) ?_
  refine sr_pu rfl (fun _ => rd_build [_, _, _, _] ze_scan_scanner rfl pl_scan_scanner (parts_cons (ev_t rfl) (parts_nil)) rfl) ?_
  refine sr_box rfl (ev_t rfl) rfl ?_
  intro b8 w8 N8
  have l8 := N8.ge g
  have g := g.trans (N8.g)
  have B8 := N8.blk
  refine sr_pu rfl (fun _ => rd_assign (ev_t rfl)) ?_
  refine sr_sub [(0, _, _), (2, _, _), (3, _, _), (4, _, _)] (sub_cons rfl (sub_cons rfl (sub_cons rfl (sub_cons rfl (sub_nil _))))) ?_
  refine sr_nil (hK2 _ _ ?_)
  refine sc_seq fun K3 hK3 => ?_
  refine sc_seq fun K4 hK4 => ?_
  refine sc_text [3, 3, 3] ?_
  refine sr_pu rfl (fun _ => rd_move (ev_t rfl)) ?_
  refine sr_pu rfl (fun _ => rd_slen str_string (ev_t rfl)) ?_
  refine sr_pu rfl (fun _ => rd_gt (ev_t rfl) ev_c) ?_
  refine sr_sub [(0, _, _), (2, _, _), (3, _, _), (4, _, _), (11, _, _)] (sub_cons rfl (sub_cons rfl (sub_cons rfl (sub_cons rfl (sub_cons rfl (sub_nil _)))))) ?_
  refine sr_nil (hK4 _ _ ?_)
  refine sc_cond (ev_t rfl) (fun h1 => ?_) (fun h1 => ?_)
  · have hN : allF s = (0, [], [], 3) := by unfold allF; rw [h1]; rfl
    refine sc_seq fun K5 hK5 => ?_
    refine sc_text [3, 3, 3] ?_
    refine sr_pu rfl (fun _ => rd_move (ev_t rfl)) ?_
    refine sr_pu rfl (fun _ => rd_assign (ev_t rfl)) ?_
    refine sr_pu rfl (fun _ => rd_assign ev_c) ?_
    refine sr_sub [(0, _, _), (2, _, _), (3, _, _), (4, _, _)] (sub_cons rfl (sub_cons rfl (sub_cons rfl (sub_cons rfl (sub_nil _))))) ?_
    refine sr_nil (hK5 _ _ ?_)
    refine sc_ret (t_rets (ts := [2, 3]) (vs := [_, _]) rfl rfl rfl ?_)
    rw [hN]; exact ⟨b8, none, 0, none, 0, rfl, ⟨B8, l8, own_none _ _ _ _, own_none _ _ _ _, (by intro h; cases h), (by intro h; cases h), (by intro k h; cases h)⟩, g⟩
  have hN : allF s = goF s s.length 0 [] [] := by unfold allF; rw [h1]; rfl
  simp only [decide_eq_false_iff_not] at h1
  refine sc_skip (hK3 _ _ ?_)
  refine sc_sub [(0, _, _), (2, _, _), (3, _, _), (4, _, _)] (sub_cons rfl (sub_cons rfl (sub_cons rfl (sub_cons rfl (sub_nil _))))) ?_
  refine sc_seq fun K6 hK6 => ?_
  refine sc_block ?_
  refine sc_loop (fun (x : Nat × List Tok × List Tok × Nat) u => Scn w.heap.size b8 s x.1 x.2.1 x.2.2.1 u ∧ s.length - x.1 ≤ x.2.2.2 ∧ goF s x.2.2.2 x.1 x.2.1 x.2.2.1 = goF s s.length 0 [] [] ∧ G w u) (fun _ => [(0, True, Str s), (4, True, .pointer (some ⟨b8, 0, none⟩))]) (fun x => s.length - x.1) (0, [], [], s.length)
    ⟨(show SA w.heap.size b8 s 0 [] [] none 0 none 0 w8 from ⟨B8, l8, own_none _ _ _ _, own_none _ _ _ _, (by intro h; cases h), (by intro h; cases h), (by intro k h; cases h)⟩).scn (Nat.zero_le _) (Nat.zero_le _) (Nat.zero_le _) (by omega), Nat.sub_le _ _, rfl, g⟩ (sub_cons rfl (sub_cons rfl (sub_nil _))) ?_
  rintro ⟨p, ts, cs, f⟩ u ⟨hs, hf, he, g⟩
  simp only at hs hf he
  obtain ⟨ta, tc, ca, cc, hA, k1, k2, k3, k4⟩ := hs.sa
  refine sc_seq fun K7 hK7 => ?_
  refine sc_seq fun K8 hK8 => ?_
  refine sc_text [3, 3, 3, 0, 3, 3, 3] ?_
  refine sr_pu rfl (fun _ => rd_move (ev_t rfl)) ?_
  refine sr_pu rfl (fun _ => rd_nil (ev_t rfl)) ?_
  refine sr_pu rfl (fun _ => rd_field fo_scan_scanner_1 (ev_t rfl)) ?_
  refine sr_rd rfl (rd_load one_int (ev_t rfl) (fun _ => hA.B.at_ rfl)) ?_
  refine sr_pu rfl (fun _ => rd_move (ev_t rfl)) ?_
  refine sr_pu rfl (fun _ => rd_slen str_string (ev_t rfl)) ?_
  refine sr_pu rfl (fun _ => rd_lt (ev_t rfl) (ev_t rfl)) ?_
  refine sr_sub [(0, _, _), (4, _, _), (19, _, _)] (sub_cons rfl (sub_cons rfl (sub_cons rfl (sub_nil _)))) ?_
  refine sr_nil (hK8 _ _ ?_)
  refine sc_cond (ev_t rfl) (fun h2 => ?_) (fun h2 => ?_)
  · replace h2 : p < s.length := by simp only [decide_eq_true_eq] at h2; omega
    obtain ⟨f', rfl⟩ : ∃ f', f = f' + 1 := ⟨f - 1, by omega⟩
    rw [goF, decide_eq_true h2, cond_true] at he
    refine sc_skip (hK7 _ _ ?_)
    refine sc_sub [(0, _, _), (4, _, _)] (sub_cons rfl (sub_cons rfl (sub_nil _))) ?_
    refine sc_block ?_
    refine sc_seq fun K9 hK9 => ?_
    refine sc_text [3, 2, 3] ?_
    refine sr_pu rfl (fun _ => rd_move (ev_t rfl)) ?_
    refine sr_call rfl (rc_call go_scan_scanner_next ev_f (args_cons (ev_t rfl) (args_nil)) rfl) (next_ok _ _ hb3 s p ts cs _ (hL.grow g) hs h2) ?_
    rintro v21 w21 ⟨rfl, hs', hb'⟩
    refine ⟨fun h => absurd h (by decide), ?_⟩
    have g : G w w21 := Below.trans g hb'
    refine sr_pu rfl (fun _ => rd_assign (ev_t rfl)) ?_
    refine sr_sub [(0, _, _), (4, _, _), (5, _, _)] (sub_cons rfl (sub_cons rfl (sub_cons rfl (sub_nil _)))) ?_
    refine sr_nil (hK9 _ _ ?_)
    refine sc_seq fun K10 hK10 => ?_
    refine sc_text [3, 3] ?_
    refine sr_pu rfl (fun _ => rd_move (ev_t rfl)) ?_
    refine sr_pu rfl (fun _ => rd_ne (ev_t rfl) ev_c) ?_
    refine sr_sub [(0, _, _), (4, _, _), (5, _, _), (23, _, _)] (sub_cons rfl (sub_cons rfl (sub_cons rfl (sub_cons rfl (sub_nil _))))) ?_
    refine sr_nil (hK10 _ _ ?_)
    refine sc_cond (ev_t rfl) (fun h3 => ?_) (fun h3 => ?_)
    · replace h3 : decide ((nextF s p ts cs).2.2.2 = 0) = false := by simpa using h3
      rw [h3, cond_false] at he
      refine sc_seq fun K11 hK11 => ?_
      refine sc_text [3, 3, 3, 3] ?_
      refine sr_pu rfl (fun _ => rd_move (ev_t rfl)) ?_
      refine sr_pu rfl (fun _ => rd_move (ev_t rfl)) ?_
      refine sr_pu rfl (fun _ => rd_assign (ev_t rfl)) ?_
      refine sr_pu rfl (fun _ => rd_assign (ev_t rfl)) ?_
      refine sr_sub [(0, _, _), (2, _, _), (3, _, _), (4, _, _)] (sub_cons rfl (sub_cons rfl (sub_cons rfl (sub_cons rfl (sub_nil _))))) ?_
      refine sr_nil (hK11 _ _ ?_)
      refine sc_ret (t_rets (ts := [2, 3]) (vs := [_, _]) rfl rfl rfl ?_)
      rw [hN, ← he]
      obtain ⟨ta, tc, ca, cc, hA, _⟩ := hs'.sa
      exact ⟨b8, ta, tc, ca, cc, rfl, hA, g⟩
    replace h3 : (nextF s p ts cs).2.2.2 = 0 := by simpa using h3
    have hlt := nextF_lt h2 h3
    rw [decide_eq_true h3, cond_true] at he
    refine sc_sub [(0, _, _), (4, _, _)] (sub_cons rfl (sub_cons rfl (sub_nil _))) ?_
    refine sc_skip (fun a ha => ?_)
    exact ⟨(_, _, _, f'), ha, ⟨hs', by show s.length - (nextF s p ts cs).1 ≤ f'; omega, he, g⟩, by show s.length - (nextF s p ts cs).1 < s.length - p; omega⟩
  have hp : p = s.length := by simp only [decide_eq_false_iff_not] at h2; omega
  have he : (p, ts, cs, (0 : Int)) = goF s s.length 0 [] [] := by
    rw [← he]
    cases f with
    | zero => rfl
    | succ f' => rw [goF, decide_eq_false (by omega : ¬ p < s.length)]; rfl
  refine sc_exit rfl (hK6 _ _ ?_)
  refine sc_sub [(4, _, _)] (sub_cons rfl (sub_nil _)) ?_
  refine sc_seq fun K12 hK12 => ?_
  refine sc_text [3, 3, 3] ?_
  refine sr_pu rfl (fun _ => rd_move (ev_t rfl)) ?_
  refine sr_pu rfl (fun _ => rd_assign (ev_t rfl)) ?_
  refine sr_pu rfl (fun _ => rd_assign ev_c) ?_
  refine sr_nil (hK12 _ _ ?_)
  refine sc_sub [(2, _, _), (3, _, _), (4, _, _), (26, _, _)] (sub_cons rfl (sub_cons rfl (sub_cons rfl (sub_cons rfl (sub_nil _))))) ?_
  refine sc_ret (t_rets (ts := [2, 3]) (vs := [_, _]) rfl rfl rfl ?_)
  rw [hN, ← he]
  exact ⟨b8, ta, tc, ca, cc, rfl, hA, g⟩
def scanF (s : List UInt8) : List Tok × Nat × Int := bif !decide ((allF s).2.2.2 = 0) then ([], (allF s).1, (allF s).2.2.2) else ((allF s).2.1, 0, 0)
/-- A list of tokens as a fresh row. -/
def Toks (base : Nat) (l : List Tok) (v : Value) (w : World) : Prop := w.ownsRow base ty_api_Token 3 v l.length (toksCells l)
theorem scan_ok (s : List UInt8) (w : World) (hL : Laid w) (hb3 : 4 ≤ w.heap.size) :
    Ret PP fn_scan_Scan #[Str s] w fun v w' => ∃ l, v = .tuple #[l, .int .i64 (scanF s).2.1, .int .i64 (scanF s).2.2] ∧ Toks w.heap.size (scanF s).1 l w' ∧ G w w' := by
  have g := G.refl w
  refine ret_of_sc (m := 23) func_scan_Scan rfl rfl [(0, True, _)] (sub_cons rfl (sub_nil _)) ?_
  refine sc_seq fun K1 hK1 => ?_
  refine sc_text [3, 3, 3] ?_
  refine sr_pu rfl (fun _ => rd_assign ev_c) ?_
  refine sr_pu rfl (fun _ => rd_assign ev_c) ?_
  refine sr_pu rfl (fun _ => rd_assign ev_c) ?_
  refine sr_nil (hK1 _ _ ?_)
  refine sc_seq fun K2 hK2 => ?_
  refine sc_text [3, 1, 3, 3, 3, 3, 3] ?_
  refine sr_pu rfl (fun _ => rd_move (ev_t rfl)) ?_
  refine sr_call rfl (rc_call go_scan_all ev_f (args_cons (ev_t rfl) (args_nil)) rfl) (all_ok s _ (hL.grow g) hb3) ?_
  rintro v9 w9 ⟨b, ta, tc, ca, cc, rfl, hA, g9⟩
  refine ⟨fun _ => g9, ?_⟩
  have g := g.trans g9
  refine sr_pu rfl (fun _ => rd_move (ev_t rfl)) ?_
  refine sr_pu rfl (fun _ => rd_extract (ev_t rfl) rfl) ?_
  refine sr_pu rfl (fun _ => rd_extract (ev_t rfl) rfl) ?_
  refine sr_pu rfl (fun _ => rd_assign (ev_t rfl)) ?_
  refine sr_pu rfl (fun _ => rd_assign (ev_t rfl)) ?_
  refine sr_sub [(2, _, _), (3, _, _), (4, _, _), (5, _, _), (6, _, _)] (sub_cons rfl (sub_cons rfl (sub_cons rfl (sub_cons rfl (sub_cons rfl (sub_nil _)))))) ?_
  refine sr_nil (hK2 _ _ ?_)
  refine sc_seq fun K3 hK3 => ?_
  refine sc_seq fun K4 hK4 => ?_
  refine sc_text [3, 3] ?_
  refine sr_pu rfl (fun _ => rd_move (ev_t rfl)) ?_
  refine sr_pu rfl (fun _ => rd_ne (ev_t rfl) ev_c) ?_
  refine sr_sub [(2, _, _), (3, _, _), (4, _, _), (5, _, _), (6, _, _), (13, _, _)] (sub_cons rfl (sub_cons rfl (sub_cons rfl (sub_cons rfl (sub_cons rfl (sub_cons rfl (sub_nil _))))))) ?_
  refine sr_nil (hK4 _ _ ?_)
  refine sc_cond (ev_t rfl) (fun h1 => ?_) (fun h1 => ?_)
  · (try simp only [bsimp] at h1)
    refine sc_seq fun K5 hK5 => ?_
    refine sc_draw [3, 3, 3, 0, 3, 3, 3, 3] [true, true, true, true, true, true, true, true] [0, 1, 3, 7, 0, 0, 47, 127] mix (by kernel_rfl) ?_
    have g := g.trans (G.drew _)
    have gh := G.drew w9
    refine sr_pu rfl (fun _ => rd_move (ev_t rfl)) ?_
    refine sr_pu rfl (fun _ => rd_nil (ev_t rfl)) ?_
    refine sr_pu rfl (fun _ => rd_field fo_scan_scanner_1 (ev_t rfl)) ?_
    refine sr_rd rfl (rd_load one_int (ev_t rfl) (fun _ => by first | exact (hA.grow gh).B.at_ rfl)) ?_
    refine sr_pu rfl (fun _ => rd_move (ev_t rfl)) ?_
    refine sr_pu rfl (fun _ => rd_assign ev_c) ?_
    refine sr_pu rfl (fun _ => rd_assign (ev_t rfl)) ?_
    refine sr_pu rfl (fun _ => rd_assign (ev_t rfl)) ?_
    refine sr_sub [(2, _, _), (3, _, _), (4, _, _), (5, _, _)] (sub_cons rfl (sub_cons rfl (sub_cons rfl (sub_cons rfl (sub_nil _))))) ?_
    refine sr_nil (hK5 _ _ ?_)
    refine sc_ret (t_rets (ts := [2, 3, 4]) (vs := [_, _, _]) rfl rfl rfl ?_)
    refine ⟨.slice none 0 0, ?_, ?_, g⟩
    · rw [scanF, show (!decide ((allF s).2.2.2 = 0)) = true from h1]; rfl
    · rw [scanF, show (!decide ((allF s).2.2.2 = 0)) = true from h1]; exact own_none _ _ _ _
  have gh := G.refl w9
  refine sc_skip (hK3 _ _ ?_)
  refine sc_sub [(2, _, _), (3, _, _), (4, _, _), (5, _, _)] (sub_cons rfl (sub_cons rfl (sub_cons rfl (sub_cons rfl (sub_nil _))))) ?_
  refine sc_seq fun K6 hK6 => ?_
  refine sc_text [3, 3, 3, 0, 3, 3, 3] ?_
  refine sr_pu rfl (fun _ => rd_move (ev_t rfl)) ?_
  refine sr_pu rfl (fun _ => rd_nil (ev_t rfl)) ?_
  refine sr_pu rfl (fun _ => rd_field fo_scan_scanner_2 (ev_t rfl)) ?_
  refine sr_rd rfl (rd_load one_sl_api_Token (ev_t rfl) (fun _ => by first | exact (hA.grow gh).B.at_ rfl)) ?_
  refine sr_pu rfl (fun _ => rd_assign (ev_t rfl)) ?_
  refine sr_pu rfl (fun _ => rd_assign ev_c) ?_
  refine sr_pu rfl (fun _ => rd_assign ev_c) ?_
  refine sr_sub [(2, _, _), (3, _, _), (4, _, _)] (sub_cons rfl (sub_cons rfl (sub_cons rfl (sub_nil _)))) ?_
  refine sr_nil (hK6 _ _ ?_)
  refine sc_ret (t_rets (ts := [2, 3, 4]) (vs := [_, _, _]) rfl rfl rfl ?_)
  refine ⟨.slice ta (allF s).2.1.length tc, ?_, ?_, g⟩
  · rw [scanF, show (!decide ((allF s).2.2.2 = 0)) = false from h1]; rfl
  · rw [scanF, show (!decide ((allF s).2.2.2 = 0)) = false from h1]; exact hA.ht
end Go.Rk
namespace Go.Rk
open Go Go.RowKit
set_option linter.unusedVariables false
section
variable {P : Program} {n : Nat} {σ : List Ent} {c : Prop} {wb : World} {ty : TypeId} {v : Value}
def unsafeTo (P : Program) (src dst : TypeId) : Bool := match P.underlying src, P.underlying dst with
  | some (.pointer t), some .unsafePointer => match P.info? t with | some i => !(Nat.beq i.size 0) | none => false
  | _, _ => false
theorem blk_shape {w : World} {b : Nat} {e : TypeId} {l : List Value} (h : Blk w b e l) : w.shape? b = some (e, l.length) := by
  unfold Blk at h
  simp [World.shape?, h]
theorem rd_to_unsafe {src dst : TypeId} {x : Operand} {b o : Nat} {e : TypeId} {l : List Value} (hk : unsafeTo P src dst = true) (h : Ev n σ c x (.pointer (some ⟨b, o, none⟩))) (hB : c → Blk wb b e l) (ho : Nat.blt o l.length = true) : Rd P n σ c wb (.convert src dst x) ty (.pointer (some ⟨b, o, none⟩)) := fun d pos after gd a ha hc w1 hg => by
  unfold unsafeTo at hk
  split at hk
  · rename_i t hs hd
    split at hk
    · rename_i i hi
      have := Lib.run_to_unsafe w1 ⟨b, o, none⟩ hs hd hi (by intro hz; rw [hz] at hk; cases hk) (blk_shape ((hB hc).grow hg)) (by simpa [Nat.blt_eq] using ho)
      simp [execOp, h a ha hc, this]
    · cases hk
  · cases hk
def unsafeFrom (P : Program) (src dst : TypeId) (e : TypeId) (k o : Nat) : Bool := match P.underlying src, P.underlying dst with
  | some .unsafePointer, some (.pointer u) => (P.info? u).isSome && liesAt P P.depth e (k / P.cellsOf e) o u 1
  | _, _ => false
theorem rd_from_unsafe {src dst : TypeId} {x : Operand} {b o : Nat} {e : TypeId} {l : List Value} (hk : unsafeFrom P src dst e l.length o = true) (h : Ev n σ c x (.pointer (some ⟨b, o, none⟩))) (hB : c → Blk wb b e l) : Rd P n σ c wb (.convert src dst x) ty (.pointer (some ⟨b, o, none⟩)) := fun d pos after gd a ha hc w1 hg => by
  unfold unsafeFrom at hk
  split at hk
  · rename_i u hs hd
    simp only [Bool.and_eq_true] at hk
    obtain ⟨i, hi⟩ := Option.isSome_iff_exists.mp hk.1
    have := Lib.run_from_unsafe w1 ⟨b, o, none⟩ hs hd hi (blk_shape ((hB hc).grow hg)) hk.2
    simp [execOp, h a ha hc, this]
  · cases hk
def isNoEscape (P : Program) (f : FuncId) : Prop := ∀ (x : Value) (w : World), (callFunc f #[x]).run P w = .ok (.value x) w
theorem noEscape_of {f : FuncId} {fn : Func} (hf : P.funcs[f]? = some fn) (hname : (fn.name == "runtime.NumGoroutine") = false) (hb : fn.body.isNone = true) (hn : Extern.findNext fn = none) (he : Extern.find fn = some Extern.AbiNoEscape.same) : isNoEscape P f := fun x w => by
  rw [run_callFunc_extern hf hname hb hn he, Lib.run_noEscape]; rfl
theorem rd_noescape {f : FuncId} {x : Operand} {ats : Array TypeId} (hf : isNoEscape P f) (h : Ev n σ c x v) : Rd P n σ c wb (.call { callee := .value (.func f), args := #[x], argTypes := ats }) ty v := fun d pos after gd a ha hc w1 _ => by
  have h1 := hf v w1
  have e : a.eval (.func f) = .func (.func f) #[] #[] := rfl
  simp [execOp, resolve, invoke, Deferred.ofValue, e, h a ha hc, h1]
theorem rd_pne_same {t u : TypeId} {x y : Operand} {ad : Addr} (ht : tyPtr P t = true) (hz : ∀ e, P.underlying t = some (.pointer e) → (P.info? e).isSome = true) (h : Ev n σ c x (.pointer (some ad))) (h' : Ev n σ c y (.pointer (some ad))) : Rd P n σ c wb (.binOp .neq t x y u) ty (.bool false) := fun d pos after gd a ha hc w1 _ => by
  obtain ⟨e, he⟩ := underlying_ptr ht
  obtain ⟨j, hj⟩ := Option.isSome_iff_exists.mp (hz e he)
  have := Lib.run_neq_ptr_same w1 ad he hj
  simp [execOp, h a ha hc, h' a ha hc, eqGuard_at_pointer, this]
end
section
variable {P : Program} {Z : List PanicEntry → Act → World → Prop} {ops : List Oper} {cl : List Nat} {lv : List Bool} {W0 : World} {n : Nat} {K : Act → World → Prop} {k : Nat} {rest : List Oper} {σ : List Ent} {w : World} {d : Nat} {ty : TypeId} {pos : String} {after : Array Edge}
/-- A guarded call that only grows the memory: one way on, whatever the guard says. -/
theorem sr_callq {g t : Nat} {want b : Bool} {c0 : Prop} {op : Op} {f : FuncId} {args : Array Value} {R : Value → World → Prop} (hb : (!Nat.beq (clOf cl k) 0 && !Nat.beq (clOf cl k) 3 && Nat.blt d n) = true)
    (hgd : ((ops.toArray[g]?).bind (·.dst)) = some t) (hlk : look σ t = some (c0, .bool b)) (hr : c0 ∧ b = want → RunC P n σ (c0 ∧ b = want) w op ty f args) (hC : c0 ∧ b = want → Ret P f args w fun v w' => R v w' ∧ G w w')
    (h : ∀ v w', (c0 ∧ b = want → R v w') → G w w' → SR P Z ops cl lv W0 n K (k + 1) rest ((d, c0 ∧ b = want, v) :: σ) w') :
    SR P Z ops cl lv W0 n K k (⟨some d, op, ty, pos, after, some (g, want)⟩ :: rest) σ w :=
  sr_callg hb hgd hlk hr hC (fun v w' _ hv => ⟨fun _ => hv.2, h v w' (fun _ => hv.1) hv.2⟩) (fun hn => h undef w (fun hc => absurd hc hn) (G.refl w))
/-- append(b, s...) of a string. -/
theorem sr_appends {t u e base m : Nat} {x y : Operand} {s : Value} {xs : List Value} {l : List UInt8} (hb : (Nat.beq (clOf cl k) 2 && Nat.blt d n) = true) (ht : tyElem P t = some (e, 1, 1)) (hzv : zeroOf P e = some (.int .u8 0)) (hus : tyStr P u = true)
    (hx : Ev n σ True x s) (hown : w.ownsRow base e 1 s m xs) (hy : Ev n σ True y (Str l)) (h63 : m + l.length ≤ 140737488355328) (hbase : base ≤ w.heap.size)
    (h : ∀ a' c' w', w'.ownsRow base e 1 (.slice a' (m + l.length) c') (m + l.length) (xs ++ Lib.byteCells l) → w.grownBy w' s.ownBlock → SR P Z ops cl lv W0 n K (k + 1) rest ((d, True, .slice a' (m + l.length) c') :: σ) w') :
    SR P Z ops cl lv W0 n K k (⟨some d, .call { callee := .builtin .append, args := #[x, y], argTypes := #[t, u] }, ty, pos, after, none⟩ :: rest) σ w := by
  obtain ⟨hu, i, hi, hsz, hbyi⟩ := underlying_sl ht
  obtain ⟨i', hi', hz'⟩ := zero_info hzv
  obtain rfl : i = i' := Option.some.inj (hi.symm.trans hi')
  simp only [Bool.and_eq_true] at hb
  have hc := Nat.eq_of_beq_eq_true hb.1
  have hsl : (⟨l.toArray⟩ : ByteArray).size = l.length := by simp [ByteArray.size]
  obtain ⟨s', w', r1, r2, r3, _⟩ := Lib.run_append_own_string (P := P) w base t u ty e i hu (underlying_str hus) hi hz' hsz hbyi s m xs hown ⟨l.toArray⟩ (by rw [hsl]; simp only [maxLen]; omega) (by rw [hsl]; omega) hbase
  rw [hsl] at r2
  obtain ⟨a', c', hs'⟩ : ∃ a' c', s' = .slice a' (m + l.length) c' := by
    rcases r2.2 with ⟨q1, q2⟩ | ⟨g, cap, cur, q1, _⟩
    · exact ⟨none, 0, by rw [q1, q2]⟩
    · exact ⟨_, cap, q1⟩
  subst hs'
  refine sr_val (w' := w') (by rw [hc, hb.2]; rfl) (fun d pos after g a ha _ => ?_) (fun hh => by omega) (h a' c' w' r2 r3)
  simp only [execOp, resolve, invoke, builtin, Sem.run_bind, Sem.run_pure, Result.andThen_ok, List.map_toArray, List.map_cons, List.map_nil, hx a ha trivial, hy a ha trivial, r1]
end
end Go.Rk
namespace Go.Rk
open Go Go.RowKit
set_option linter.unusedVariables false
structure Ty where
  kind : Int
  name : List UInt8
inductive Nd where
  | mk (kind : Int) (text : List UInt8) (num pos : Int) (kids : List Nd) (ty : Ty) (ref up : Int)
namespace Nd
def kind : Nd → Int | .mk k _ _ _ _ _ _ _ => k
def text : Nd → List UInt8 | .mk _ x _ _ _ _ _ _ => x
def num : Nd → Int | .mk _ _ n _ _ _ _ _ => n
def pos : Nd → Int | .mk _ _ _ a _ _ _ _ => a
def kids : Nd → List Nd | .mk _ _ _ _ ks _ _ _ => ks
def ty : Nd → Ty | .mk _ _ _ _ _ y _ _ => y
def ref : Nd → Int | .mk _ _ _ _ _ _ r _ => r
def up : Nd → Int | .mk _ _ _ _ _ _ _ u => u
end Nd
def ty0 : Ty := ⟨0, []⟩
def nd0 : Nd := .mk 0 [] 0 0 [] ty0 0 0
def tyCells (y : Ty) : List Value := [.int .i64 y.kind, Str y.name]
/-- The cells of a node whose children lie behind v. -/
def ndCells (t : Nd) (v : Value) : List Value := [.int .i64 t.kind, Str t.text, .int .i64 t.num, .int .i64 t.pos, v, .int .i64 t.ty.kind, Str t.ty.name, .int .i64 t.ref, .int .i64 t.up]
@[reducible] def tyV (y : Ty) : Value := .agg (tyCells y).toArray
@[reducible] def ndV (t : Nd) (v : Value) : Value := .agg (ndCells t v).toArray
theorem ndCells_length (t : Nd) (v : Value) : (ndCells t v).length = 9 := rfl

mutual
theorem Nd.ind_n {C : Nd → Prop} (h : ∀ t, (∀ k ∈ t.kids, C k) → C t) : ∀ t, C t
  | .mk k x n a ks y r u => h _ (Nd.ind_l h ks)
theorem Nd.ind_l {C : Nd → Prop} (h : ∀ t, (∀ k ∈ t.kids, C k) → C t) : ∀ (l : List Nd), ∀ k ∈ l, C k
  | [] => fun _ hk => by cases hk
  | t :: ts => List.forall_mem_cons.2 ⟨Nd.ind_n h t, Nd.ind_l h ts⟩
end
theorem Nd.ind {C : Nd → Prop} (h : ∀ t, (∀ k ∈ t.kids, C k) → C t) (t : Nd) : C t := Nd.ind_n h t

section
variable {α : Type}
mutual
/-- A function of a tree out of its children's. -/
def para (f : Nd → List α → α) : Nd → α
  | .mk k x n a ks y r u => f (.mk k x n a ks y r u) (paraL f ks)
def paraL (f : Nd → List α → α) : List Nd → List α
  | [] => []
  | t :: ts => para f t :: paraL f ts
end
theorem paraL_eq (f : Nd → List α → α) (l : List Nd) : paraL f l = l.map (para f) := by
  induction l with
  | nil => rfl
  | cons t ts ih => rw [paraL, ih]; rfl
theorem para_eq (f : Nd → List α → α) (t : Nd) : para f t = f t (t.kids.map (para f)) := by
  cases t with
  | mk k x n a ks y r u => rw [para, paraL_eq]; rfl
end

mutual
/-- Children as a row of cells. -/
def KRow (w : World) (D : Nat → Prop) : List Nd → List Value → Prop
  | [], xs => xs = []
  | t :: ts, xs => ∃ v r, xs = ndCells t v ++ r ∧ KNd w D t v ∧ KRow w D ts r
def KNd (w : World) (D : Nat → Prop) : Nd → Value → Prop
  | .mk _ _ _ _ ks _ _ _, v => ∃ p c, v = .slice p ks.length c ∧ ks.length ≤ c ∧ (0 < ks.length → ∃ b o, p = some ⟨b, o, none⟩ ∧ D b ∧ ∃ xs, RowAt w b o xs ∧ KRow w D ks xs)
end
/-- Children behind a slice; their blocks are all of D. -/
def Kd (w : World) (D : Nat → Prop) (ks : List Nd) (v : Value) : Prop :=
  ∃ p c, v = .slice p ks.length c ∧ ks.length ≤ c ∧ (0 < ks.length → ∃ b o, p = some ⟨b, o, none⟩ ∧ D b ∧ ∃ xs, RowAt w b o xs ∧ KRow w D ks xs)
theorem knd_eq (w : World) (D : Nat → Prop) (t : Nd) (v : Value) : KNd w D t v = Kd w D t.kids v := by
  cases t; rw [KNd]; rfl
theorem krow_nil {w : World} {D : Nat → Prop} : KRow w D [] [] := rfl
theorem krow_cons {w : World} {D : Nat → Prop} {t : Nd} {ts : List Nd} {v : Value} {r : List Value} (h : Kd w D t.kids v) (k : KRow w D ts r) : KRow w D (t :: ts) (ndCells t v ++ r) :=
  ⟨v, r, rfl, (knd_eq ..).symm ▸ h, k⟩
theorem krow_length {w : World} {D : Nat → Prop} : ∀ {ks : List Nd} {xs : List Value}, KRow w D ks xs → xs.length = ks.length * 9
  | [], xs, h => by rw [show xs = [] from h]; rfl
  | t :: ts, xs, h => by
    obtain ⟨v, r, rfl, _, h⟩ := h
    rw [List.length_append, ndCells_length, krow_length h, List.length_cons]; omega
theorem krow_append {w : World} {D : Nat → Prop} : ∀ {ks ls : List Nd} {xs ys : List Value}, KRow w D ks xs → KRow w D ls ys → KRow w D (ks ++ ls) (xs ++ ys)
  | [], ls, xs, ys, h, k => by rw [show xs = [] from h]; exact k
  | t :: ts, ls, xs, ys, h, k => by
    obtain ⟨v, r, rfl, h1, h⟩ := h
    exact ⟨v, r ++ ys, by rw [List.append_assoc], h1, krow_append h k⟩
theorem krow_one {w : World} {D : Nat → Prop} {t : Nd} {v : Value} (h : Kd w D t.kids v) : KRow w D [t] (ndCells t v) := by
  have := krow_cons h (krow_nil (w := w) (D := D)); rwa [List.append_nil] at this
theorem krow_get {w : World} {D : Nat → Prop} : ∀ {ks : List Nd} {xs : List Value} (_ : KRow w D ks xs) {i : Nat} (hi : i < ks.length), ∃ v, (xs.drop (i * 9)).take 9 = ndCells ks[i] v ∧ Kd w D ks[i].kids v
  | [], xs, h, i, hi => by cases hi
  | t :: ts, xs, h, i, hi => by
    obtain ⟨v, r, rfl, h1, h⟩ := h
    cases i with
    | zero => exact ⟨v, by simp [ndCells], knd_eq w D t v ▸ h1⟩
    | succ i =>
      have hi' : i < ts.length := by simpa using hi
      obtain ⟨v', e, k⟩ := krow_get h hi'
      refine ⟨v', ?_, k⟩
      have e9 : (ndCells t v ++ r).drop ((i + 1) * 9) = r.drop (i * 9) := by
        rw [show (i + 1) * 9 = 9 + i * 9 by omega, ← List.drop_drop]; rfl
      rw [e9]; exact e
mutual
theorem krow_frame {w w' : World} {D D' : Nat → Prop} (hD : ∀ b, D b → b < w.heap.size → D' b) (hf : ∀ b, D b → b < w.heap.size → w'.heap[b]? = w.heap[b]?) : ∀ (ks : List Nd) (xs : List Value), KRow w D ks xs → KRow w' D' ks xs
  | [], xs, h => h
  | t :: ts, xs, h => by
    obtain ⟨v, r, rfl, h1, h⟩ := h
    exact ⟨v, r, rfl, knd_frame hD hf t v h1, krow_frame hD hf ts r h⟩
theorem knd_frame {w w' : World} {D D' : Nat → Prop} (hD : ∀ b, D b → b < w.heap.size → D' b) (hf : ∀ b, D b → b < w.heap.size → w'.heap[b]? = w.heap[b]?) : ∀ (t : Nd) (v : Value), KNd w D t v → KNd w' D' t v
  | .mk k x n a ks y r u, v, h => by
    obtain ⟨p, c, rfl, hc, h⟩ := h
    refine ⟨p, c, rfl, hc, fun h0 => ?_⟩
    obtain ⟨b, o, rfl, hb, xs, hR, hX⟩ := h h0
    have hl : xs.length = ks.length * 9 := krow_length hX
    have h0' : ∃ u, xs[0]? = some u := ⟨xs[0]'(by omega), by simp⟩
    obtain ⟨u0, hu0⟩ := h0'
    have hlt : b < w.heap.size := World.block_lt_of_cell? w _ (hR 0 u0 hu0)
    have hb' := hf b hb hlt
    refine ⟨b, o, rfl, hD b hb hlt, xs, fun j u hj => ?_, krow_frame hD hf ks xs hX⟩
    have := hR j u hj
    unfold World.cell? at this ⊢
    simp only [hb']
    exact this
end
theorem kd_frame {w w' : World} {D D' : Nat → Prop} {ks : List Nd} {v : Value} (h : Kd w D ks v) (hD : ∀ b, D b → b < w.heap.size → D' b) (hf : ∀ b, D b → b < w.heap.size → w'.heap[b]? = w.heap[b]?) : Kd w' D' ks v := by
  have := knd_frame hD hf (.mk 0 [] 0 0 ks ty0 0 0) v ((knd_eq w D _ v).symm ▸ h)
  rw [knd_eq] at this; exact this
theorem Kd.mono {w : World} {D D' : Nat → Prop} {ks : List Nd} {v : Value} (h : Kd w D ks v) (hD : ∀ b, D b → b < w.heap.size → D' b) : Kd w D' ks v := kd_frame h hD fun _ _ _ => rfl
theorem KRow.mono {w : World} {D D' : Nat → Prop} {ks : List Nd} {xs : List Value} (h : KRow w D ks xs) (hD : ∀ b, D b → b < w.heap.size → D' b) : KRow w D' ks xs := krow_frame hD (fun _ _ _ => rfl) _ _ h
theorem Kd.grow {w w' : World} {D : Nat → Prop} {ks : List Nd} {v : Value} (h : Kd w D ks v) (g : G w w') : Kd w' D ks v := kd_frame h (fun _ h _ => h) fun _ _ hb => g.block hb
theorem KRow.grow {w w' : World} {D : Nat → Prop} {ks : List Nd} {xs : List Value} (h : KRow w D ks xs) (g : G w w') : KRow w' D ks xs := krow_frame (fun _ h _ => h) (fun _ _ hb => g.block hb) _ _ h
/-- Memory outside D may be written. -/
theorem Kd.keep {w w' : World} {D : Nat → Prop} {ks : List Nd} {v : Value} {row : Option Nat} (h : Kd w D ks v) (hg : w.grownBy w' row) (hne : ∀ b, D b → b < w.heap.size → some b ≠ row) : Kd w' D ks v := kd_frame h (fun _ h _ => h) fun b hb hlt => hg.block b hlt (hne b hb hlt)
theorem KRow.keep {w w' : World} {D : Nat → Prop} {ks : List Nd} {xs : List Value} {row : Option Nat} (h : KRow w D ks xs) (hg : w.grownBy w' row) (hne : ∀ b, D b → b < w.heap.size → some b ≠ row) : KRow w' D ks xs := krow_frame (fun _ h _ => h) (fun b hb hlt => hg.block b hlt (hne b hb hlt)) _ _ h
theorem Kd.lt {w : World} {D : Nat → Prop} {ks : List Nd} {v : Value} (h : Kd w D ks v) : Kd w (fun b => D b ∧ b < w.heap.size) ks v := kd_frame h (fun _ h hl => ⟨h, hl⟩) fun _ _ _ => rfl
theorem KRow.lt {w : World} {D : Nat → Prop} {ks : List Nd} {xs : List Value} (h : KRow w D ks xs) : KRow w (fun b => D b ∧ b < w.heap.size) ks xs := krow_frame (fun _ h hl => ⟨h, hl⟩) (fun _ _ _ => rfl) _ _ h
theorem kd_nil (w : World) (D : Nat → Prop) : Kd w D [] (.slice none 0 0) := ⟨none, 0, rfl, Nat.le_refl _, fun h => absurd h (Nat.lt_irrefl 0)⟩
/-- A row of one's own as children. -/
theorem kd_own {w : World} {base : Nat} {e : TypeId} {v : Value} {m : Nat} {xs : List Value} {D : Nat → Prop} {ks : List Nd} (h : w.ownsRow base e 9 v m xs) (hm : m = ks.length) (k : KRow w D ks xs) (hD : ∀ b, v.ownBlock = some b → D b) : Kd w D ks v := by
  subst hm
  obtain ⟨a, c, rfl, hc⟩ := own_sl h
  refine ⟨a, c, rfl, hc, fun h0 => ?_⟩
  obtain ⟨b, c', hv, _, hR, _⟩ := own_pos h h0
  injection hv with hv _ _
  subst hv
  exact ⟨b, 0, rfl, hD b rfl, xs, hR, k⟩
/-- A piece of memory as children. -/
theorem kd_row {w : World} {D : Nat → Prop} {ks : List Nd} {b o c : Nat} {xs : List Value} (hb : D b) (hR : RowAt w b o xs) (hX : KRow w D ks xs) (hc : ks.length ≤ c) : Kd w D ks (.slice (some ⟨b, o, none⟩) ks.length c) := ⟨_, c, rfl, hc, fun _ => ⟨b, o, rfl, hb, xs, hR, hX⟩⟩
theorem kd_at {w : World} {D : Nat → Prop} {ks : List Nd} {b o : Nat} {xs : List Value} (hR : RowAt w b o xs) (hX : KRow w D ks xs) {i : Nat} (hi : i < ks.length) : ∃ p c, RowAt w b (o + i * 9) (ndCells ks[i] (.slice p ks[i].kids.length c)) ∧ Kd w D ks[i].kids (.slice p ks[i].kids.length c) := by
  obtain ⟨v, e, k⟩ := krow_get hX hi
  have := hR.part (i * 9) 9
  rw [e] at this
  obtain ⟨p, c, rfl, k1⟩ := k
  exact ⟨p, c, this, p, c, rfl, k1⟩
/-! counting -/
def count (t : Nd) : Nat := para (fun _ l => 1 + l.sum) t
theorem count_eq (t : Nd) : count t = 1 + (t.kids.map count).sum := para_eq _ t
theorem sum_take_le (l : List Nat) (i : Nat) : (l.take i).sum ≤ l.sum := by
  conv => rhs; rw [← List.take_append_drop i l, List.sum_append]
  omega
theorem count_kid {t : Nd} {i : Nat} (h : i < t.kids.length) : ((t.kids.take i).map count).sum + count t.kids[i] + 1 ≤ count t := by
  rw [count_eq t]
  have := sum_take_le (t.kids.map count) (i + 1)
  rw [← List.map_take, List.take_add_one, List.getElem?_eq_getElem h] at this
  simp only [Option.toList_some, List.map_append, List.map_cons, List.map_nil, List.sum_append, List.sum_cons, List.sum_nil] at this
  omega
theorem count_pos (t : Nd) : 1 ≤ count t := by rw [count_eq]; omega
theorem length_le_sum : ∀ (l : List Nd), l.length ≤ (l.map count).sum
  | [] => Nat.le_refl _
  | t :: ts => by have := length_le_sum ts; have := count_pos t; simp; omega
theorem kids_le (t : Nd) : t.kids.length + 1 ≤ count t := by
  have := length_le_sum t.kids; rw [count_eq]; omega
theorem count_mem {t k : Nd} (h : k ∈ t.kids) : count k + 1 ≤ count t := by
  obtain ⟨i, hi, rfl⟩ := List.getElem_of_mem h
  have := count_kid hi; omega
theorem take_succ_map {α β : Type} (f : α → β) (l : List α) (i : Nat) (h : i < l.length) : (l.take (i + 1)).map f = (l.take i).map f ++ [f l[i]] := by
  rw [List.take_add_one, List.getElem?_eq_getElem h, List.map_append]; rfl
end Go.Rk
namespace Go.Rk
open Go Go.RowKit
def alB (c : UInt8) : Bool := letterB c.toNat || digitB c.toNat
def nameB (s : List UInt8) : Bool := !(((decide (s = []) || decide ((32 : Int) < s.length)) || !letterB (cAt s 0)) || inB kws s) && (s.drop 1).all alB
/-! the same by the scanner -/
theorem letter_not {c : Int} (h : letterB c = true) : decide (c = 10) = false ∧ ((decide (c = 32) || decide (c = 9)) || decide (c = 13)) = false ∧ decide (c = 47) = false := by
  simp only [letterB, Bool.or_eq_true, Bool.and_eq_true, decide_eq_true_eq] at h
  simp only [Bool.or_eq_false_iff, decide_eq_false_iff_not]
  omega
theorem runN_full {q : Int → Bool} : ∀ {l : List UInt8}, (∀ c ∈ l, q c.toNat = true) → runN q l = l.length
  | [], _ => rfl
  | c :: l, h => by
    rw [runN, if_pos (h c (List.mem_cons_self ..)), runN_full fun x hx => h x (List.mem_cons_of_mem _ hx)]; rfl
theorem name_run {s : List UInt8} (h : nameB s = true) : s.length ≠ 0 ∧ s.length ≤ 32 ∧ letterB (cAt s 0) = true ∧ inB kws s = false ∧ runN isAlnum s = s.length := by
  unfold nameB at h
  simp only [Bool.and_eq_true, Bool.not_eq_true', Bool.or_eq_false_iff, decide_eq_false_iff_not, Bool.not_eq_false'] at h
  obtain ⟨⟨⟨⟨h1, h2⟩, h3⟩, h4⟩, h5⟩ := h
  refine ⟨fun e => h1 (List.length_eq_zero_iff.1 e), by omega, h3, h4, runN_full fun c hc => ?_⟩
  cases s with
  | nil => cases hc
  | cons a l =>
    rcases List.mem_cons.1 hc with rfl | hc
    · have : letterB (c.toNat : Int) = true := h3
      rw [isAlnum, this]; rfl
    · exact List.all_eq_true.1 h5 c hc
theorem pre_slash {l : List UInt8} (h : decide (cAt l 0 = 47) = false) : preB [47, 47] l = false := by
  cases l with
  | nil => rfl
  | cons a l =>
    have : ¬ (a.toNat : Int) = 47 := of_decide_eq_false h
    unfold preB
    rw [Bool.and_eq_false_iff]; right
    rw [decide_eq_false_iff_not]
    intro e
    rw [List.length_cons, List.take_succ_cons] at e
    injection e with e1 _
    subst e1
    exact this rfl
theorem name_scan {s : List UInt8} (h : nameB s = true) : scanF s = ([⟨1, s, 0⟩], 0, 0) := by
  obtain ⟨h0, h1, h2, h3, h4⟩ := name_run h
  obtain ⟨a1, a2, a3⟩ := letter_not h2
  have hN : nextF s 0 [] [] = (s.length, [⟨1, s, 0⟩], [], 0) := by
    unfold nextF
    rw [a1, a2, show s.drop 0 = s from rfl, pre_slash a3, h2, h4, decide_eq_false (by omega : ¬ (32 : Int) < (s.length : Nat)), List.take_of_length_le (Nat.le_refl _), wordK, h3]
    simp
  have hG : goF s s.length 0 [] [] = (s.length, [⟨1, s, 0⟩], [], 0) := by
    obtain ⟨m, hm⟩ : ∃ m, s.length = m + 1 := ⟨s.length - 1, by omega⟩
    rw [hm, goF, decide_eq_true (by omega : 0 < s.length), hN]
    simp only [cond_true, decide_true]
    cases m with
    | zero => rw [goF, hm]
    | succ m => rw [goF, decide_eq_false (by omega), cond_false, hm]
  rw [scanF, allF, decide_eq_false (by omega : ¬ (20000 : Int) < s.length), cond_false, hG]
  rfl
def NameTok (t : Tok) : Prop := t.kind = 1 → nameB t.text = true
theorem nextF_name {s : List UInt8} {p : Nat} {ts : List Tok} (cs : List Tok) (hp : p < s.length) (h : ∀ t ∈ ts, NameTok t) : ∀ t ∈ (nextF s p ts cs).2.1, NameTok t := by
  have hn : ∀ (l : List Tok) (t : Tok), (∀ t ∈ l, NameTok t) → NameTok t → ∀ u ∈ l ++ [t], NameTok u := by
    intro l t hl ht u hu
    rcases List.mem_append.1 hu with hu | hu
    · exact hl u hu
    · rw [List.mem_singleton.1 hu]; exact ht
  unfold nextF
  cases h1 : decide (cAt s p = 10)
  · cases h2 : ((decide (cAt s p = 32) || decide (cAt s p = 9)) || decide (cAt s p = 13))
    · cases h3 : preB [47, 47] (s.drop p)
      · cases h4 : letterB (cAt s p)
        · cases h7 : digitB (cAt s p)
          · cases h8 : Nat.beq (opLen (s.drop p)) 0
            · exact hn _ _ h (fun e => by simp at e)
            · exact h
          · cases h8 : badD s p (runN digitB (s.drop p))
            · cases h9 : decide (valN 0 ((s.drop p).take (runN digitB (s.drop p))) < 9223372036854775808)
              · exact h
              · exact hn _ _ h (fun e => by simp at e)
            · exact h
        · cases h5 : decide ((32 : Int) < runN isAlnum (s.drop p))
          · refine hn _ _ h (fun e => ?_)
            simp only at e ⊢
            have hq : isAlnum (cAt s p) = true := by rw [isAlnum, h4]; rfl
            have hpos := runN_pos hp hq
            have hfit := runN_fit isAlnum hp
            have hall := runN_all isAlnum (s.drop p)
            generalize hX : (s.drop p).take (runN isAlnum (s.drop p)) = x at e hall ⊢
            have hl : x.length = runN isAlnum (s.drop p) := by rw [← hX, List.length_take, List.length_drop]; omega
            have hk : inB kws x = false := by
              cases hk : inB kws x
              · rfl
              · rw [wordK, hk] at e; cases e
            have hc : cAt x 0 = cAt s p := by
              rw [← hX]
              unfold cAt
              simp [List.getD_eq_getElem?_getD, List.getElem?_take, show 0 < runN isAlnum (s.drop p) from hpos]
            have h5' := of_decide_eq_false h5
            unfold nameB
            rw [decide_eq_false (by omega : ¬ (32 : Int) < (x.length : Nat)), hc, h4, hk, decide_eq_false (by intro e0; rw [e0] at hl; simp at hl; omega)]
            simp only [Bool.not_true, Bool.or_false, Bool.not_false, Bool.true_and]
            rw [List.all_eq_true]
            intro c hc
            exact hall c (List.mem_of_mem_drop hc)
          · exact h
      · exact h
    · exact h
  · show ∀ t ∈ nlTs p ts, NameTok t
    intro t ht
    have : nlTs p ts = ts ∨ ∃ q, nlTs p ts = ts ++ [⟨4, [59], q⟩] := by
      unfold nlTs
      cases ts.getLast? with
      | none => exact .inl rfl
      | some u => simp only []; split <;> first | exact .inl rfl | exact .inr ⟨_, rfl⟩
    rcases this with e | ⟨q, e⟩
    · rw [e] at ht; exact h t ht
    · rw [e] at ht; exact hn _ _ h (fun e => by simp at e) t ht
theorem goF_name (s : List UInt8) : ∀ (f p : Nat) (ts cs : List Tok), (∀ t ∈ ts, NameTok t) → ∀ t ∈ (goF s f p ts cs).2.1, NameTok t
  | 0, _, _, _, h => h
  | f + 1, p, ts, cs, h => by
    rw [goF]
    cases hp : decide (p < s.length)
    · exact h
    · have hn := nextF_name (ts := ts) cs (of_decide_eq_true hp) h
      cases decide ((nextF s p ts cs).2.2.2 = 0)
      · exact hn
      · exact goF_name s f _ _ _ hn
theorem scanF_name (s : List UInt8) : ∀ t ∈ (scanF s).1, NameTok t := by
  rw [scanF, allF]
  cases decide ((20000 : Int) < s.length)
  · simp only [cond_false]
    have := goF_name s s.length 0 [] [] (fun t ht => by cases ht)
    cases (!decide ((goF s s.length 0 [] []).2.2.2 = 0))
    · exact this
    · exact fun t ht => by cases ht
  · exact fun t ht => by cases ht
def tok1 (l : List Tok) : Tok := l.getD 0 ⟨0, [], 0⟩
def nameP (s : List UInt8) : Bool := ((decide ((scanF s).2.2 = 0) && decide (((scanF s).1.length : Int) = 1)) && decide ((tok1 (scanF s).1).kind = 1)) && decide ((tok1 (scanF s).1).text = s)
theorem nameP_eq (s : List UInt8) : nameP s = nameB s := by
  cases h : nameB s
  · rw [nameP, Bool.eq_false_iff]
    intro hp
    simp only [Bool.and_eq_true, decide_eq_true_eq] at hp
    obtain ⟨⟨⟨_, h2⟩, h3⟩, h4⟩ := hp
    have hm : tok1 (scanF s).1 ∈ (scanF s).1 := by
      cases hl : (scanF s).1 with
      | nil => rw [hl] at h2; simp at h2
      | cons a l => exact List.mem_cons_self ..
    have := scanF_name s _ hm h3
    rw [h4, h] at this; cases this
  · rw [nameP, name_scan h]
    simp [tok1]
def pb (p : Option Addr) : Nat := match p with | some a => a.block | none => 0
def po (p : Option Addr) : Nat := match p with | some a => a.off | none => 0
/-- A chain of comparisons, as a switch makes it. -/
def anyK : List Int → Int → Bool
  | [], _ => false
  | [a], k => decide (k = a)
  | a :: b :: l, k => decide (k = a) || anyK (b :: l) k
def anyS : List (List UInt8) → List UInt8 → Bool
  | [], _ => false
  | [a], k => decide (k = a)
  | a :: b :: l, k => decide (k = a) || anyS (b :: l) k
theorem tok1_row {w : World} {b o : Nat} {l : List Tok} (h : RowAt w b o (toksCells l)) (hl : 0 < l.length) : RowAt w b o (tokCells (tok1 l)) := by
  cases l with
  | nil => cases hl
  | cons t l =>
    have := h.part 0 3
    exact this
theorem rd_idxq {P : Program} {n : Nat} {σ : List Ent} {c : Prop} {wb : World} {ty : TypeId} {t e z by_ : Nat} {x y : Operand} {p : Option Addr} {m q : Nat} {k : IntKind} {i : Int} (ht : tyElem P t = some (e, z, by_)) (h : Ev n σ c x (.slice p m q)) (h' : Ev n σ c y (.int k i)) (hi : c → 0 ≤ i ∧ i < m) (hp : c → p = some ⟨pb p, po p, none⟩) :
    Rd P n σ c wb (.indexAddr t x y) ty (.pointer (some ⟨pb p, po p + i.toNat * z, none⟩)) := fun d pos after gd a ha hc w1 hg =>
  rd_idx (P := P) (wb := wb) ht (Ev.to h fun hc => congrArg (fun p => Value.slice p m q) (hp hc)) h' hi d pos after gd a ha hc w1 hg
theorem toks_slice {base : Nat} {l : List Tok} {v : Value} {w : World} (h : Toks base l v w) : ∃ a c, v = .slice a l.length c ∧ (0 < l.length → a = some ⟨pb a, po a, none⟩ ∧ RowAt w (pb a) (po a) (tokCells (tok1 l))) := by
  obtain ⟨a, c, rfl, _⟩ := own_sl h
  refine ⟨a, c, rfl, fun h0 => ?_⟩
  obtain ⟨b, c', hv, _, hR, _⟩ := own_pos h h0
  injection hv with hv _ _
  subst hv
  exact ⟨rfl, tok1_row hR h0⟩
end Go.Rk
namespace Go.Rk
open Go Go.RowKit Go.ChangeShapes Go.WideShapes
end Go.Rk
namespace Go.Rk
open Go Go.RowKit Go.ChangeShapes Go.WideShapes Go.ChangeAt
/-- An array of strings that reads as a list of texts holds them. -/
theorem cells_of_strs {H : Type} {enc : TypeId × Value → H} {P : Program} {w : World} {base : Nat} {sp : Nat → Bool} {held : Bool} {fuel : Nat} {t e : TypeId} {n : Nat} {cs : List Value} {ls : List (List UInt8)} {p : List MemPlace}
    (ht : P.underlying t = some (.array n e)) (he : P.underlying e = some .string) (hce : P.cellsOf e = 1) (hct : P.cellsOf t = n)
    (h : DataW.trod enc P w base sp held fuel t cs = some (.agg (ls.map fun l => .lit (.string l)), p)) : cs = ls.map Str := by
  cases fuel with
  | zero => simp [DataW.trod] at h
  | succ fuel =>
    simp only [DataW.trod, ht, hce, hct, Nat.mul_one] at h
    split at h
    · rename_i hl
      obtain ⟨xs, hm, hx⟩ := Option.map_eq_some_iff.1 h
      have hxs : xs.map (·.1) = ls.map fun l => (DataW.lit (.string l) : DataW H) := by
        have := congrArg Prod.fst hx
        simpa using this
      have hxl : xs.length = n := by simpa using Lib.mapM_length hm
      have hzl : ls.length = n := by
        have := congrArg List.length hxs
        simp at this
        omega
      apply List.ext_getElem?
      intro i
      by_cases hi : i < n
      · obtain ⟨b, hb, hf⟩ := Lib.mapM_at hm i i (by simp [hi])
        obtain ⟨s, hc, rfl, _⟩ := DataW.trod_string he hf
        have h1 : cs[i]? = some (.string s) := by
          have := congrArg (·[0]?) hc
          simpa [List.getElem?_take, List.getElem?_drop] using this
        have h2 : (xs.map (·.1))[i]? = some (DataW.lit (.string s.data.toList) : DataW H) := by simp [hb]
        rw [hxs] at h2
        simp only [List.getElem?_map, Option.map_eq_some_iff, DataW.lit.injEq, Lit.string.injEq] at h2
        obtain ⟨z', hz', e⟩ := h2
        rw [h1]
        simp [hz', e]
      · rw [List.getElem?_eq_none (by omega), List.getElem?_eq_none (by simp; omega)]
    · cases h
theorem laid_of {P : Program} {x : String × DataW Unit} {r : List (String × DataW Unit)} {W : World} {g : Nat} {t : TypeId} (h : laidMet P (x :: r) W) (hg : P.globalNamed x.1 = some g) (ht : (P.globals[g]?).map (·.type) = some t) :
    ∃ cs fuel p, W.var? P x.1 = some cs ∧ DataW.trod (fun _ => ()) P W 0 (fun _ => true) false fuel t cs.toList = some (x.2, p) := by
  obtain ⟨n, d⟩ := x
  obtain ⟨ps, ⟨g', t', cs, fuel, p, q, hg', ht', hvar, hd, _, _⟩, _⟩ := h
  obtain rfl := Option.some.inj (hg.symm.trans hg')
  obtain rfl := Option.some.inj (ht.symm.trans ht')
  exact ⟨cs, fuel, p, hvar, hd⟩
abbrev laidL : List (String × DataW Unit) := Go.Proofs.YteicjpedahoilaaDoor.Rows.syntaxDepthRow.laid
theorem laid_cells {W : World} (h : laidMetH PP laidL W) : Laid W := by
  have h0 : laidMet PP laidL W := h
  obtain ⟨cs, fuel, p, hv, hd⟩ := laid_of h0.tail.tail.tail.tail.tail (g := 0) (t := 90) (by kernel_rfl) (by kernel_rfl)
  have hc : cs.toList = opsL.map Str := cells_of_strs (n := 27) (e := 9) (by kernel_rfl) (by kernel_rfl) (by kernel_rfl) (by kernel_rfl) hd
  obtain ⟨cs2, fuel2, p2, hv2, hd2⟩ := laid_of h0.tail.tail.tail (g := 3) (t := 52) (by kernel_rfl) (by kernel_rfl)
  obtain ⟨ms, hms⟩ : ∃ ms, PP.underlying 52 = some (.interface ms) := Go.underlying_of_isIface if_error
  obtain ⟨f', u, v, hc2, _⟩ := iface_of_trod hms hd2
  refine ⟨fun j v hj => ?_, ?_⟩
  · have := World.var?_cell (by kernel_rfl : PP.globalNamed _ = some 0) hv j
    rw [Nat.zero_add, this, ← hj, ← hc]; simp
  · have := World.var?_cell (by kernel_rfl : PP.globalNamed _ = some 3) hv2 0
    refine ⟨.iface u v, ?_, .inr ⟨_, _, rfl⟩⟩
    rw [this, ← Array.getElem?_toList, hc2]; rfl
theorem laid_size {W : World} (h : Laid W) : 4 ≤ W.heap.size := by
  obtain ⟨ev, h1, _⟩ := h.err
  exact World.block_lt_of_cell? W _ h1
end Go.Rk
namespace Go.Proofs.YteicjpedahoilaaDoor
open Go Go.RowKit Go.ChangeShapes Go.WideShapes Go.ChangeAt Go.Rk
theorem own : ownKnob Tryd.prog.godebug = none := by kernel_rfl
def cellOf : DataW Unit → Value
  | .lit (.int k z) => .int k z
  | .lit (.string s) => .string ⟨s.toArray⟩
  | _ => .nilIface
def cellsOf : DataW Unit → Array Value
  | .agg l => (l.map cellOf).toArray
  | _ => #[]
def textOf : DataW Unit → Value
  | .iface _ (.ptr (.agg [d])) => cellOf d
  | _ => .nilIface
def put (h : Array Obj) (g : Nat) (cs : Array Value) : Array Obj := h.modify g fun
  | .cells _ t frozen => .cells cs t frozen
  | o => o
/-- A world that holds what the rows list. -/
noncomputable def laidWorld (os : Os) : World :=
  let N := (World.settled Tryd.prog os).heap.size
  let w0 := World.holding Tryd.prog os ⟨#[.cells #[textOf Rows.laid_strconv_ErrSyntax] 121, .cells #[textOf Rows.laid_strconv_ErrRange] 121], #[], []⟩
  let h0 := put w0.heap 0 (cellsOf Rows.laid_interleave_scan_operators)
  let h1 := put h0 1 (cellsOf Rows.laid_internal_strconv_uint64pow10)
  let h2 := put h1 2 #[.iface 119 (.pointer (some ⟨N, 0, none⟩))]
  let h3 := put h2 3 #[.iface 119 (.pointer (some ⟨N + 1, 0, none⟩))]
  let h4 := put h3 4 (cellsOf Rows.laid_math_bits_deBruijn32tab)
  let h5 := put h4 5 (cellsOf Rows.laid_math_bits_deBruijn64tab)
  { w0 with heap := h5 }
end Go.Proofs.YteicjpedahoilaaDoor
namespace Go.Rk
open Go Go.RowKit
def rng (z : Int) : Prop := -9223372036854775808 ≤ z ∧ z ≤ 9223372036854775807
def okNd (t : Nd) : Prop := para (fun t l => rng t.kind ∧ rng t.num ∧ rng t.pos ∧ rng t.ty.kind ∧ rng t.ref ∧ rng t.up ∧ ∀ p ∈ l, p) t
theorem okNd_eq (t : Nd) : okNd t = (rng t.kind ∧ rng t.num ∧ rng t.pos ∧ rng t.ty.kind ∧ rng t.ref ∧ rng t.up ∧ ∀ p ∈ t.kids.map okNd, p) := para_eq _ t
theorem okNd_kid {t k : Nd} (h : okNd t) (hk : k ∈ t.kids) : okNd k := by
  rw [okNd_eq] at h; exact h.2.2.2.2.2.2 _ (List.mem_map_of_mem hk)
end Go.Rk
namespace Go.Rk
open Go Go.RowKit
/-- Nodes and letters. -/
def weight (t : Nd) : Nat := para (fun t l => 1 + t.text.length + l.sum) t
end Go.Rk
namespace Go.Rk
open Go Go.RowKit Go.ChangeShapes Go.WideShapes
abbrev bulk {H : Type} : DataW H → Nat := Go.Proofs.YteicjpedahoilaaDoor.Rows.uptoBulk
abbrev bulkAll {H : Type} : List (DataW H) → Nat := Go.Proofs.YteicjpedahoilaaDoor.Rows.uptoBulkAll
noncomputable def fieldsOf' (t : TypeId) : Option (List (Nat × Nat)) := match PP.underlying t with | some (.struct fs) => some (fs.toList.map fun f => (f.type, f.offset)) | _ => none
section
variable {H : Type} {enc : TypeId × Value → H} {w : World} {base : Nat} {sp : Nat → Bool} {held : Bool}
end
end Go.Rk
namespace Go.Rk
open Go Go.RowKit
set_option linter.unusedVariables false
/-- A function value that tests a kind. -/
def FnV (P : Program) (q : Int → Bool) (v : Value) (w : World) : Prop := ∃ f fs cs, v = .func (.func f) fs cs ∧ goFn P f = true ∧ ∀ (k : Int) (w' : World), G w w' → Ret P f (fs ++ #[.int .i64 k] ++ cs) w' fun r w'' => r = .bool (q k) ∧ G w' w''
theorem FnV.grow {P : Program} {q : Int → Bool} {v : Value} {w w' : World} (h : FnV P q v w) (g : G w w') : FnV P q v w' := by
  obtain ⟨f, fs, cs, rfl, h1, h2⟩ := h
  exact ⟨f, fs, cs, rfl, h1, fun k w'' g' => h2 k w'' (g.trans g')⟩
/-- A plain function as a value. -/
theorem fnV_of {P : Program} {q : Int → Bool} {f : Nat} (hgo : goFn P f = true) (h : ∀ (k : Int) (w : World), Ret P f #[.int .i64 k] w fun r w' => r = .bool (q k) ∧ G w w') (w : World) : FnV P q (.func (.func f) #[] #[]) w :=
  ⟨f, #[], #[], rfl, hgo, fun k w' _ => by simpa using h k w'⟩
section
variable {P : Program} {Z : List PanicEntry → Act → World → Prop} {ops : List Oper} {cl : List Nat} {lv : List Bool} {W0 : World} {n : Nat} {K : Act → World → Prop} {k : Nat} {rest : List Oper} {σ : List Ent} {w : World} {d : Nat} {ty : TypeId} {pos : String} {after : Array Edge}
/-- A guarded operation that makes memory. -/
theorem sr_valg {g t : Nat} {want b : Bool} {c0 : Prop} {op : Op} {v : Value} {w' : World} (hb : (!Nat.beq (clOf cl k) 0 && !Nat.beq (clOf cl k) 3 && Nat.blt d n) = true)
    (hgd : ((ops.toArray[g]?).bind (·.dst)) = some t) (hlk : look σ t = some (c0, .bool b)) (hr : RunV P n σ (c0 ∧ b = want) w op ty v w') (hg : G w w')
    (h : (c0 ∧ b = want) → SR P Z ops cl lv W0 n K (k + 1) rest ((d, c0 ∧ b = want, v) :: σ) w') (h' : ¬ (c0 ∧ b = want) → SR P Z ops cl lv W0 n K (k + 1) rest ((d, c0 ∧ b = want, v) :: σ) w) :
    SR P Z ops cl lv W0 n K k (⟨some d, op, ty, pos, after, some (g, want)⟩ :: rest) σ w := fun hl a ha => by
  obtain ⟨h0, h1⟩ := shift_ops hl
  simp only [Bool.and_eq_true, Bool.not_eq_true'] at hb
  rw [List.length_cons, List.range'_succ]
  have hw := want_of (op := op) (ty := ty) (pos := pos) (after := after) (want := want) (d := some d) hgd hlk ha
  refine ⟨_, h0, ?_⟩
  rw [if_neg (fun he => by rcases he with he | he <;> rw [he] at hb <;> simp at hb)]
  by_cases hh : c0 ∧ b = want
  · rw [if_pos (hw.2 hh)]
    exact .inl ⟨v, w', hr _ _ _ _ a ha hh, fun _ => hg, h hh h1 _ (ha.put hb.2 (fun _ => rfl) (fun hn => absurd hh hn))⟩
  · rw [if_neg (fun hq => hh (hw.1 hq))]
    exact h' hh h1 _ (ha.put hb.2 (fun hq => absurd hq hh) (fun _ => rfl))
theorem sr_buildSliceg {g t0 : Nat} {want bb : Bool} {c0 : Prop} {t e z by_ m : Nat} {ps : Array (Nat × Operand)} {vs : List (Nat × Value)} {zv : Value} (l : List Value) (hb : (!Nat.beq (clOf cl k) 0 && !Nat.beq (clOf cl k) 3 && Nat.blt d n) = true) (hgd : ((ops.toArray[g]?).bind (·.dst)) = some t0) (hlk : look σ t0 = some (c0, .bool bb))
    (ht : tyElem P t = some (e, z, by_)) (hz : zeroOf P e = some zv)
    (hx : EvParts n σ (c0 ∧ bb = want) ps vs) (hm : (Nat.ble (m * z) 16777216 && !Nat.beq (m * z) 0 && Nat.beq vs.length m) = true) (hf : fillS z 0 vs = some l)
    (h : ∀ b w1, G w w1 → (c0 ∧ bb = want → Blk w1 b e l) → SR P Z ops cl lv W0 n K (k + 1) rest ((d, c0 ∧ bb = want, .slice (some ⟨b, 0, none⟩) m m) :: σ) w1) :
    SR P Z ops cl lv W0 n K k (⟨some d, .buildSlice t m ps, ty, pos, after, some (g, want)⟩ :: rest) σ w := by
  obtain ⟨hu, i, hi, hsz, _⟩ := underlying_sl ht
  obtain ⟨i', hi', hz'⟩ := zero_info hz
  obtain rfl : i = i' := Option.some.inj (hi.symm.trans hi')
  simp only [Bool.and_eq_true, Bool.not_eq_true'] at hm
  have hm1 : ¬ (m * z > 2 ^ 24) := by have := Nat.le_of_ble_eq_true hm.1.1; omega
  have hm2 : ¬ (m * z = 0) := by intro he; rw [he] at hm; simp at hm
  have hvl := Nat.eq_of_beq_eq_true hm.2
  have hfill : Instr.fill (fun i => some (i * z, z)) ((Array.range (m * z)).map (zv.cells[· % zv.cells.size]!)) vs = some l.toArray := by
    have h1 := fillS_list z vs 0 [] ((Array.range (m * z)).map (zv.cells[· % zv.cells.size]!)).toList l hf (by simp) (by simp [hvl]) (by simp)
    have := fill_list _ _ _ _ h1
    rwa [Array.toArray_toList] at this
  refine sr_valg hb hgd hlk (w' := w.alloc (.cells l.toArray e)) (v := .slice (some ⟨w.heap.size, 0, none⟩) m m) (fun d pos after g a ha hc => ?_) (new_alloc w e l).g (fun hc => h _ _ (new_alloc w e l).g (fun _ => (new_alloc w e l).blk)) (fun hc => h _ _ (G.refl w) (fun hq => absurd hq hc))
  have hx' := hx a ha hc
  simp only [execOp, Instr.buildSlice, Sem.run_bind, run_underlying hu, Result.andThen_ok, sizeOf, typeInfo, run_program, hi, Sem.run_pure, hsz, if_neg hm1, if_neg hm2, zeroValue, hz']
  rw [hx', hfill]
  simp [newRow]
end
section
variable {P : Program} {n : Nat} {σ : List Ent} {c : Prop} {wb : World} {ty : TypeId} {v : Value}
theorem rd_sl_from0 {t e z by_ : Nat} {x y : Operand} {o : Option Addr} {m q : Nat} {k : IntKind} (ht : tyElem P t = some (e, z, by_)) (h : Ev n σ c x (.slice o m q)) (h' : Ev n σ c y (.int k 0)) :
    Rd P n σ c wb (.slice t x (some y) none none) ty (.slice o m q) := fun d pos after gd a ha hc w1 _ => by
  obtain ⟨hu, inf, hin, hz, _⟩ := underlying_sl ht
  have e2 : o.map (fun b => Addr.add b 0) = o := by cases o <;> simp [Addr.add]
  simp only [execOp, h a ha hc, h' a ha hc, Instr.sliceAt, Option.map_some, Option.map_none, Sem.run_bind, run_underlying hu, Result.andThen_ok]
  simp [Instr.slice, run_underlying hu, Instr.sliceBounds, Instr.sliceBound, asIntOf, run_size hin, e2]
end
end Go.Rk
namespace Go.Rk
open Go Go.RowKit
set_option linter.unusedVariables false
section
variable {α : Type} {f : α → List Value} {z : Nat}
/-- A slice whose elements are plain structs. -/
def RowF (f : α → List Value) (w : World) (l : List α) (v : Value) : Prop :=
  ∃ p c, v = .slice p l.length c ∧ l.length ≤ c ∧ (0 < l.length → ∃ b o, p = some ⟨b, o, none⟩ ∧ RowAt w b o (l.flatMap f))
theorem RowF.grow {w w' : World} {l : List α} {v : Value} (h : RowF f w l v) (g : G w w') : RowF f w' l v := by
  obtain ⟨p, c, rfl, hc, h⟩ := h
  refine ⟨p, c, rfl, hc, fun h0 => ?_⟩
  obtain ⟨b, o, rfl, hR⟩ := h h0
  exact ⟨b, o, rfl, hR.grow g⟩
end
end Go.Rk
