/- strconv.ParseInt at digits: the kit's shelf, laid at this program. Conditions: the variable ErrRange holds an error. -/
import Derived.Shelf.LaysC
import Derived.Shelf.Strconv.ParseIntPublic10
import Derived.Test.YtpbnkinfkkokfaaDoorScanD
namespace Go.Rk
open Go Go.Shelf Go.RowKit
def laysC174_ren : Go.Shelf.Ren := ⟨fun | 174 => 39 | 247 => 47 | 245 => 48 | 287 => 49 | 279 => 50 | 280 => 51 | 281 => 52 | 282 => 53 | 321 => 54 | 322 => 55 | 316 => 56 | 171 => 58 | 205 => 57 | 243 => 59 | 246 => 60 | 283 => 61 | 284 => 62 | 285 => 63 | 286 => 64 | 129 => 66 | 317 => 65 | 318 => 67 | 319 => 68 | 320 => 69 | 337 => 70 | 338 => 71 | n => n, fun | 9 => 9 | 3 => 3 | 2 => 2 | 75 => 49 | 85 => 62 | 4 => 4 | 167 => 72 | 5 => 5 | 53 => 71 | 175 => 73 | 46 => 75 | 168 => 76 | 37 => 31 | 0 => 0 | 210 => 81 | 21 => 21 | 127 => 58 | 145 => 86 | 143 => 84 | 171 => 88 | 173 => 91 | 212 => 95 | 51 => 96 | 20 => 20 | 213 => 97 | 232 => 101 | 233 => 102 | 80 => 53 | n => n, fun | 15 => 1 | 16 => 2 | 17 => 3 | 18 => 4 | 19 => 5 | n => n⟩
theorem laysC174 : Go.Proofs.LaysC.n174 PP laysC174_ren := {
  mixed := by kernel_rfl
  f129 := Go.Proofs.Tryd.func66.trans (congrArg some (by kernel_rfl))
  f171 := Go.Proofs.Tryd.func58.trans (congrArg some (by kernel_rfl))
  f174 := Go.Proofs.Tryd.func39.trans (congrArg some (by kernel_rfl))
  f205 := Go.Proofs.Tryd.func57.trans (congrArg some (by kernel_rfl))
  f243 := Go.Proofs.Tryd.func59.trans (congrArg some (by kernel_rfl))
  f245 := Go.Proofs.Tryd.func48.trans (congrArg some (by kernel_rfl))
  f246 := Go.Proofs.Tryd.func60.trans (congrArg some (by kernel_rfl))
  f247 := Go.Proofs.Tryd.func47.trans (congrArg some (by kernel_rfl))
  f279 := Go.Proofs.Tryd.func50.trans (congrArg some (by kernel_rfl))
  f280 := Go.Proofs.Tryd.func51.trans (congrArg some (by kernel_rfl))
  f281 := Go.Proofs.Tryd.func52.trans (congrArg some (by kernel_rfl))
  f282 := Go.Proofs.Tryd.func53.trans (congrArg some (by kernel_rfl))
  f283 := Go.Proofs.Tryd.func61.trans (congrArg some (by kernel_rfl))
  f284 := Go.Proofs.Tryd.func62.trans (congrArg some (by kernel_rfl))
  f285 := Go.Proofs.Tryd.func63.trans (congrArg some (by kernel_rfl))
  f286 := Go.Proofs.Tryd.func64.trans (congrArg some (by kernel_rfl))
  f287 := Go.Proofs.Tryd.func49.trans (congrArg some (by kernel_rfl))
  f316 := Go.Proofs.Tryd.func56.trans (congrArg some (by kernel_rfl))
  f317 := Go.Proofs.Tryd.func65.trans (congrArg some (by kernel_rfl))
  f318 := Go.Proofs.Tryd.func67.trans (congrArg some (by kernel_rfl))
  f319 := Go.Proofs.Tryd.func68.trans (congrArg some (by kernel_rfl))
  f320 := Go.Proofs.Tryd.func69.trans (congrArg some (by kernel_rfl))
  f321 := Go.Proofs.Tryd.func54.trans (congrArg some (by kernel_rfl))
  f322 := Go.Proofs.Tryd.func55.trans (congrArg some (by kernel_rfl))
  f337 := Go.Proofs.Tryd.func70.trans (congrArg some (by kernel_rfl))
  f338 := Go.Proofs.Tryd.func71.trans (congrArg some (by kernel_rfl))
  t0 := Go.Proofs.Tryd.underlying0
  a0 := Go.Proofs.Tryd.isAgg0
  z0 := Go.Proofs.Tryd.sizeOf0
  v0 := Go.Proofs.Tryd.zeroValue0
  t2 := Go.Proofs.Tryd.underlying2
  a2 := Go.Proofs.Tryd.isAgg2
  z2 := Go.Proofs.Tryd.sizeOf2
  v2 := Go.Proofs.Tryd.zeroValue2
  t3 := Go.Proofs.Tryd.underlying3
  a3 := Go.Proofs.Tryd.isAgg3
  z3 := Go.Proofs.Tryd.sizeOf3
  v3 := Go.Proofs.Tryd.zeroValue3
  t4 := Go.Proofs.Tryd.underlying4
  a4 := Go.Proofs.Tryd.isAgg4
  z4 := Go.Proofs.Tryd.sizeOf4
  v4 := Go.Proofs.Tryd.zeroValue4
  t5 := Go.Proofs.Tryd.underlying5
  a5 := Go.Proofs.Tryd.isAgg5
  z5 := Go.Proofs.Tryd.sizeOf5
  v5 := Go.Proofs.Tryd.zeroValue5
  t9 := Go.Proofs.Tryd.underlying9
  a9 := Go.Proofs.Tryd.isAgg9
  z9 := Go.Proofs.Tryd.sizeOf9
  v9 := Go.Proofs.Tryd.zeroValue9
  t20 := Go.Proofs.Tryd.underlying20
  a20 := Go.Proofs.Tryd.isAgg20
  z20 := Go.Proofs.Tryd.sizeOf20
  v20 := Go.Proofs.Tryd.zeroValue20
  t21 := Go.Proofs.Tryd.underlying21
  a21 := Go.Proofs.Tryd.isAgg21
  z21 := Go.Proofs.Tryd.sizeOf21
  v21 := Go.Proofs.Tryd.zeroValue21
  t37 := Go.Proofs.Tryd.underlying31
  a37 := Go.Proofs.Tryd.isAgg31
  z37 := Go.Proofs.Tryd.sizeOf31
  v37 := Go.Proofs.Tryd.zeroValue31
  t46 := Go.Proofs.Tryd.underlying75
  a46 := Go.Proofs.Tryd.isAgg75
  z46 := Go.Proofs.Tryd.sizeOf75
  v46 := Go.Proofs.Tryd.zeroValue75
  t51 := Go.Proofs.Tryd.underlying96
  a51 := Go.Proofs.Tryd.isAgg96
  z51 := Go.Proofs.Tryd.sizeOf96
  v51 := Go.Proofs.Tryd.zeroValue96
  t53 := Go.Proofs.Tryd.underlying71
  a53 := Go.Proofs.Tryd.isAgg71
  z53 := Go.Proofs.Tryd.sizeOf71
  v53 := Go.Proofs.Tryd.zeroValue71
  t75 := Go.Proofs.Tryd.underlying49
  a75 := Go.Proofs.Tryd.isAgg49
  z75 := Go.Proofs.Tryd.sizeOf49
  v75 := Go.Proofs.Tryd.zeroValue49
  t85 := Go.Proofs.Tryd.underlying62
  a85 := Go.Proofs.Tryd.isAgg62
  z85 := Go.Proofs.Tryd.sizeOf62
  v85 := Go.Proofs.Tryd.zeroValue62
  t127 := Go.Proofs.Tryd.underlying58
  a127 := Go.Proofs.Tryd.isAgg58
  z127 := Go.Proofs.Tryd.sizeOf58
  v127 := Go.Proofs.Tryd.zeroValue58
  t143 := Go.Proofs.Tryd.underlying84
  a143 := Go.Proofs.Tryd.isAgg84
  z143 := Go.Proofs.Tryd.sizeOf84
  v143 := Go.Proofs.Tryd.zeroValue84
  t145 := Go.Proofs.Tryd.underlying86
  a145 := Go.Proofs.Tryd.isAgg86
  z145 := Go.Proofs.Tryd.sizeOf86
  v145 := Go.Proofs.Tryd.zeroValue86
  t167 := Go.Proofs.Tryd.underlying72
  a167 := Go.Proofs.Tryd.isAgg72
  z167 := Go.Proofs.Tryd.sizeOf72
  v167 := Go.Proofs.Tryd.zeroValue72
  t168 := Go.Proofs.Tryd.underlying76
  a168 := Go.Proofs.Tryd.isAgg76
  z168 := Go.Proofs.Tryd.sizeOf76
  v168 := Go.Proofs.Tryd.zeroValue76
  t171 := Go.Proofs.Tryd.underlying88
  a171 := Go.Proofs.Tryd.isAgg88
  z171 := Go.Proofs.Tryd.sizeOf88
  v171 := Go.Proofs.Tryd.zeroValue88
  t173 := Go.Proofs.Tryd.underlying91
  a173 := Go.Proofs.Tryd.isAgg91
  z173 := Go.Proofs.Tryd.sizeOf91
  v173 := Go.Proofs.Tryd.zeroValue91
  t175 := Go.Proofs.Tryd.underlying73
  a175 := Go.Proofs.Tryd.isAgg73
  z175 := Go.Proofs.Tryd.sizeOf73
  v175 := Go.Proofs.Tryd.zeroValue73
  t210 := Go.Proofs.Tryd.underlying81
  a210 := Go.Proofs.Tryd.isAgg81
  z210 := Go.Proofs.Tryd.sizeOf81
  v210 := Go.Proofs.Tryd.zeroValue81
  t212 := Go.Proofs.Tryd.underlying95
  a212 := Go.Proofs.Tryd.isAgg95
  z212 := Go.Proofs.Tryd.sizeOf95
  v212 := Go.Proofs.Tryd.zeroValue95
  t213 := Go.Proofs.Tryd.underlying97
  a213 := Go.Proofs.Tryd.isAgg97
  z213 := Go.Proofs.Tryd.sizeOf97
  t232 := Go.Proofs.Tryd.underlying101
  a232 := Go.Proofs.Tryd.isAgg101
  z232 := Go.Proofs.Tryd.sizeOf101
  v232 := Go.Proofs.Tryd.zeroValue101
  t233 := Go.Proofs.Tryd.underlying102
  a233 := Go.Proofs.Tryd.isAgg102
  z233 := Go.Proofs.Tryd.sizeOf102
  v233 := Go.Proofs.Tryd.zeroValue102
  g15 := by kernel_rfl
  g16 := by kernel_rfl
  g17 := by kernel_rfl
  g18 := by kernel_rfl
  g19 := by kernel_rfl
  t80 := Go.Proofs.Tryd.underlying53
  a80 := Go.Proofs.Tryd.isAgg53
  z80 := Go.Proofs.Tryd.sizeOf53
  v80 := Go.Proofs.Tryd.zeroValue53
  i0 := by kernel_rfl
  i2 := by kernel_rfl
  i3 := by kernel_rfl
  i4 := by kernel_rfl
  i5 := by kernel_rfl
  i9 := by kernel_rfl
  i20 := by kernel_rfl
  i21 := by kernel_rfl
  i37 := by kernel_rfl
  i46 := by kernel_rfl
  i51 := by kernel_rfl
  i53 := by kernel_rfl
  i75 := by kernel_rfl
  i80 := by kernel_rfl
  i85 := by kernel_rfl
  i127 := by kernel_rfl
  i143 := by kernel_rfl
  i145 := by kernel_rfl
  i167 := by kernel_rfl
  i168 := by kernel_rfl
  i171 := by kernel_rfl
  i173 := by kernel_rfl
  i175 := by kernel_rfl
  i210 := by kernel_rfl
  i212 := by kernel_rfl
  i232 := by kernel_rfl
  i233 := by kernel_rfl
  m15 := by kernel_rfl
  m16 := by kernel_rfl
  m17 := by kernel_rfl
  m18 := by kernel_rfl
  m19 := by kernel_rfl
  c0 := by kernel_rfl
  c2 := by kernel_rfl
  c3 := by kernel_rfl
  c4 := by kernel_rfl
  c5 := by kernel_rfl
  c9 := by kernel_rfl
  c20 := by kernel_rfl
  c21 := by kernel_rfl
  c37 := by kernel_rfl
  c46 := by kernel_rfl
  c51 := by kernel_rfl
  c53 := by kernel_rfl
  c75 := by kernel_rfl
  c80 := by kernel_rfl
  c85 := by kernel_rfl
  c127 := by kernel_rfl
  c143 := by kernel_rfl
  c145 := by kernel_rfl
  c167 := by kernel_rfl
  c168 := by kernel_rfl
  c171 := by kernel_rfl
  c173 := by kernel_rfl
  c175 := by kernel_rfl
  c210 := by kernel_rfl
  c212 := by kernel_rfl
  c213 := by kernel_rfl
  c232 := by kernel_rfl
  c233 := by kernel_rfl }

/-- The value of digits. -/
def valN (a : Nat) (l : List UInt8) : Nat := l.foldl (fun a c => a * 10 + (c.toNat - 48)) a
def allD (l : List UInt8) : Prop := ∀ c ∈ l, 48 ≤ c.toNat ∧ c.toNat ≤ 57
theorem valN_cons (a : Nat) (c : UInt8) (l : List UInt8) : valN a (c :: l) = valN (a * 10 + (c.toNat - 48)) l := List.foldl_cons ..
theorem valN_ge (l : List UInt8) : ∀ a, a ≤ valN a l := by
  induction l with
  | nil => exact fun a => Nat.le_refl _
  | cons c l ih => intro a; have := ih (a * 10 + (c.toNat - 48)); rw [valN_cons]; omega
theorem parseM_digits (M : Nat) (hM : M = 18446744073709551615) : ∀ (l : List UInt8) (a : Nat), allD l → Lib.parseUintM M a l = if l = [] then .ok a else if valN a l ≤ M then .ok (valN a l) else .range
  | [], a, _ => rfl
  | c :: l, a, h => by
    have hc := h c (List.mem_cons_self ..)
    have ih := parseM_digits M hM l (a * 10 + (c.toNat - 48)) (fun x hx => h x (List.mem_cons_of_mem _ hx))
    have hge := valN_ge l (a * 10 + (c.toNat - 48))
    rw [if_neg (by simp : ¬ (c :: l) = []), valN_cons]
    rw [Lib.parseUintM, if_pos hc]
    generalize hv : a * 10 + (c.toNat - 48) = v at ih hge ⊢
    by_cases h1 : 1844674407370955162 ≤ a
    · rw [if_pos h1, if_neg (by omega)]
    · rw [if_neg h1]
      by_cases h2 : M < v
      · rw [if_pos h2, if_neg (by omega)]
      · rw [if_neg h2, ih]
        by_cases hl : l = []
        · subst hl; rw [if_pos rfl]; rw [if_pos (show valN v [] ≤ M by show v ≤ M; omega)]; rfl
        · rw [if_neg hl]
theorem parseI_digits (l : List UInt8) (h : allD l) (hne : l ≠ []) : Lib.parseIntB 64 l = if valN 0 l < 9223372036854775808 then .ok (valN 0 l : Int) else .range := by
  cases l with
  | nil => exact absurd rfl hne
  | cons c r =>
    have hc := h c (List.mem_cons_self ..)
    have e1 : (2 : Nat) ^ (64 - 1) = 9223372036854775808 := by decide
    have e2 : (2 : Nat) ^ 64 - 1 = 18446744073709551615 := by decide
    have hm := parseM_digits _ rfl (c :: r) 0 h
    rw [if_neg (by simp : ¬ (c :: r) = [])] at hm
    simp only [Lib.parseIntB, Lib.parseUintB, e1, e2]
    rw [if_neg (by omega : ¬ (c.toNat = 43 ∨ c.toNat = 45)), if_neg (by simp : ¬ (c :: r) = []), hm]
    by_cases h2 : valN 0 (c :: r) ≤ 18446744073709551615
    · rw [if_pos h2]
      by_cases h3 : valN 0 (c :: r) < 9223372036854775808
      · rw [if_pos h3]; simp only []; rw [if_neg (by omega), if_neg (by omega), if_neg (by omega)]
      · rw [if_neg h3]; simp only []; rw [if_pos (by omega)]
    · rw [if_neg h2, if_neg (by omega)]
/-- The error of strconv.ParseInt, as far as it matters: whether it is nil. -/
theorem parse_ok (l : List UInt8) (h : allD l) (hne : l ≠ []) (hl : l.length ≤ 20000) (w : World) (ev : Value) (hv : w.cell? ⟨2, 0, none⟩ = some ev) (hev : ev = .nilIface ∨ ∃ te pe, ev = .iface te pe) :
    Ret PP fn_strconv_ParseInt #[Str l, .int .i64 10, .int .i64 64] w fun v w' => (∃ x e, v = .tuple #[.int .i64 x, e] ∧ (e = .nilIface ∨ ∃ a b, e = .iface a b) ∧ nilV e = decide (valN 0 l < 9223372036854775808)) ∧ G w w' := by
  have hp := parseI_digits l h hne
  by_cases h3 : valN 0 l < 9223372036854775808
  · rw [if_pos h3] at hp
    refine (Go.Proofs.Any.strconv_ParseInt_10_at64_ok laysC174 ⟨l.toArray⟩ (by simp [ByteArray.size]; omega) _ (by simpa using hp) w).mono ?_
    rintro e w' ⟨rfl, hw⟩
    refine ⟨_, rfl, ⟨_, .nilIface, rfl, .inl rfl, by rw [decide_eq_true h3]; rfl⟩, ?_⟩
    rcases hw with rfl | ⟨t, rfl⟩
    · exact G.refl _
    · exact Lib.bytesWorld_below _ _ _
  · rw [if_neg h3] at hp
    refine (Go.Proofs.Any.strconv_ParseInt_10_at64_range laysC174 ⟨l.toArray⟩ (by simp [ByteArray.size]; omega) (by simpa using hp) ev w hv hev).mono ?_
    rintro e w' ⟨N, rfl, _, _, hb⟩
    exact ⟨_, rfl, ⟨_, _, rfl, .inr ⟨_, _, rfl⟩, by rw [decide_eq_false h3]; rfl⟩, hb⟩
end Go.Rk
