/- strconv.ParseInt at digits: the kit's shelf, laid at this program. Conditions: the variable ErrRange holds an error. -/
import Derived.Shelf.Strconv.ParseIntPublic10
import Derived.Test.YtheifopckahdiaaDoorScanD
import Derived.Test.YtheifopckahdiaaDoorLayP
namespace Go.Rk
open Go Go.Shelf Go.RowKit
/-- The value of digits. -/
def valN (a : Nat) (l : List UInt8) : Nat := l.foldl (fun a c => a * 10 + (c.toNat - 48)) a
def allD (l : List UInt8) : Prop := ∀ c ∈ l, 48 ≤ c.toNat ∧ c.toNat ≤ 57
theorem valN_cons (a : Nat) (c : UInt8) (l : List UInt8) : valN a (c :: l) = valN (a * 10 + (c.toNat - 48)) l := List.foldl_cons ..
theorem valN_ge (l : List UInt8) : ∀ a, a ≤ valN a l := by
  induction l with
  | nil => exact fun a => Nat.le_refl _
  | cons c l ih => intro a; have := ih (a * 10 + (c.toNat - 48)); rw [valN_cons]; omega
theorem parseM_digits (M : Nat) (hM : M = 18446744073709551615) : ∀ (l : List UInt8) (a : Nat), allD l → Lib.parseUintM M a l = if l = [] then .ok a else if valN a l ≤ M then .ok (valN a l) else .range
  | [], a, _ => rfl
  | c :: l, a, h => by
    have hc := h c (List.mem_cons_self ..)
    have ih := parseM_digits M hM l (a * 10 + (c.toNat - 48)) (fun x hx => h x (List.mem_cons_of_mem _ hx))
    have hge := valN_ge l (a * 10 + (c.toNat - 48))
    rw [if_neg (by simp : ¬ (c :: l) = []), valN_cons]
    rw [Lib.parseUintM, if_pos hc]
    generalize hv : a * 10 + (c.toNat - 48) = v at ih hge ⊢
    by_cases h1 : 1844674407370955162 ≤ a
    · rw [if_pos h1, if_neg (by omega)]
    · rw [if_neg h1]
      by_cases h2 : M < v
      · rw [if_pos h2, if_neg (by omega)]
      · rw [if_neg h2, ih]
        by_cases hl : l = []
        · subst hl; rw [if_pos rfl]; rw [if_pos (show valN v [] ≤ M by show v ≤ M; omega)]; rfl
        · rw [if_neg hl]
theorem parseI_digits (l : List UInt8) (h : allD l) (hne : l ≠ []) : Lib.parseIntB 64 l = if valN 0 l < 9223372036854775808 then .ok (valN 0 l : Int) else .range := by
  cases l with
  | nil => exact absurd rfl hne
  | cons c r =>
    have hc := h c (List.mem_cons_self ..)
    have e1 : (2 : Nat) ^ (64 - 1) = 9223372036854775808 := by decide
    have e2 : (2 : Nat) ^ 64 - 1 = 18446744073709551615 := by decide
    have hm := parseM_digits _ rfl (c :: r) 0 h
    rw [if_neg (by simp : ¬ (c :: r) = [])] at hm
    simp only [Lib.parseIntB, Lib.parseUintB, e1, e2]
    rw [if_neg (by omega : ¬ (c.toNat = 43 ∨ c.toNat = 45)), if_neg (by simp : ¬ (c :: r) = []), hm]
    by_cases h2 : valN 0 (c :: r) ≤ 18446744073709551615
    · rw [if_pos h2]
      by_cases h3 : valN 0 (c :: r) < 9223372036854775808
      · rw [if_pos h3]; simp only []; rw [if_neg (by omega), if_neg (by omega), if_neg (by omega)]
      · rw [if_neg h3]; simp only []; rw [if_pos (by omega)]
    · rw [if_neg h2, if_neg (by omega)]
/-- The error of strconv.ParseInt, as far as it matters: whether it is nil. -/
theorem parse_ok (l : List UInt8) (h : allD l) (hne : l ≠ []) (hl : l.length ≤ 20000) (w : World) (ev : Value) (hv : w.cell? ⟨3, 0, none⟩ = some ev) (hev : ev = .nilIface ∨ ∃ te pe, ev = .iface te pe) :
    Ret PP fn_strconv_ParseInt #[Str l, .int .i64 10, .int .i64 64] w fun v w' => (∃ x e, v = .tuple #[.int .i64 x, e] ∧ (e = .nilIface ∨ ∃ a b, e = .iface a b) ∧ nilV e = decide (valN 0 l < 9223372036854775808)) ∧ G w w' := by
  have hp := parseI_digits l h hne
  by_cases h3 : valN 0 l < 9223372036854775808
  · rw [if_pos h3] at hp
    refine (Go.Proofs.Any.strconv_ParseInt_10_at64_ok laysC174 ⟨l.toArray⟩ (by simp [ByteArray.size]; omega) _ (by simpa using hp) w).mono ?_
    rintro e w' ⟨rfl, hw⟩
    refine ⟨_, rfl, ⟨_, .nilIface, rfl, .inl rfl, by rw [decide_eq_true h3]; rfl⟩, ?_⟩
    rcases hw with rfl | ⟨t, rfl⟩
    · exact G.refl _
    · exact Lib.bytesWorld_below _ _ _
  · rw [if_neg h3] at hp
    refine (Go.Proofs.Any.strconv_ParseInt_10_at64_range laysC174 ⟨l.toArray⟩ (by simp [ByteArray.size]; omega) (by simpa using hp) ev w hv hev).mono ?_
    rintro e w' ⟨N, rfl, _, _, hb⟩
    exact ⟨_, rfl, ⟨_, _, rfl, .inr ⟨_, _, rfl⟩, by rw [decide_eq_false h3]; rfl⟩, hb⟩
end Go.Rk
