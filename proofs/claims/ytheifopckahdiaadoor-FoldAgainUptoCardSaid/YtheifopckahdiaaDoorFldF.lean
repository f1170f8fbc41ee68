/- Folding: what is constant stays so; plain laws. Conditions: none. -/
import Derived.Test.YtheifopckahdiaaDoorFldD
import Derived.Test.YtheifopckahdiaaDoorRng
namespace Go.Rk
open Go Go.RowKit
/-- The value, if there is one. -/
def valO (t : Nd) : Option Cst := bif (valC t).2 then some (valC t).1 else none
def oneO (t : Nd) (x : Option Cst) : Option Cst := match x with
  | some c => bif decide (t.text = [45]) && !c.1 then some (false, IntKind.i64.wrap (0 - c.2)) else bif decide (t.text = [33]) && c.1 then some (true, IntKind.i64.wrap (1 - c.2)) else none
  | none => none
def twoO (op : List UInt8) (x y : Option Cst) : Option Cst := match x, y with
  | some a, some b => bif a.1 == b.1 then (bif (binF op a b).2 then some (binF op a b).1 else none) else none
  | _, _ => none
def oF (t : Nd) (r : Nat → Option Cst) : Option Cst :=
  bif decide (t.kind = 24) then (bif (decide (0 ≤ t.num) && plainB t) && lenK t 0 then some (false, t.num) else none)
  else bif decide (t.kind = 25) then (bif ((decide (t.num = 0) || decide (t.num = 1)) && plainB t) && lenK t 0 then some (true, t.num) else none)
  else bif decide (t.kind = 31) && lenK t 1 then oneO t (r 0)
  else bif decide (t.kind = 32) && lenK t 2 then twoO t.text (r 0) (r 1)
  else none
theorem valO_eq (t : Nd) : valO t = oF t fun i => valO (kidAt t i) := by
  rw [valO, valC_eq, valF, oF]
  cases decide (t.kind = 24) with
  | true => rfl
  | false =>
  cases decide (t.kind = 25) with
  | true => rfl
  | false =>
  cases decide (t.kind = 31) && lenK t 1 with
  | true =>
    simp only [cond_true, cond_false, valO, oneO]
    cases (valC (kidAt t 0)).2 with
    | false => rfl
    | true =>
      simp only [Bool.true_and, cond_true]
      cases decide (t.text = [45]) <;> cases decide (t.text = [33]) <;> cases (valC (kidAt t 0)).1.1 <;> rfl
  | false =>
  cases decide (t.kind = 32) && lenK t 2 with
  | true =>
    simp only [cond_true, cond_false, valO, twoO]
    cases (valC (kidAt t 0)).2 <;> cases (valC (kidAt t 1)).2 <;> first | rfl | skip
    simp only [Bool.true_and, cond_true]
    cases (valC (kidAt t 0)).1.1 == (valC (kidAt t 1)).1.1 <;> rfl
  | false => rfl
theorem valO_iff {t : Nd} {c : Cst} : valO t = some c ↔ (valC t).2 = true ∧ (valC t).1 = c := by
  rw [valO]; cases (valC t).2 <;> simp
theorem valO_kind {t : Nd} {c : Cst} (h : valO t = some c) : t.kind = 24 ∨ t.kind = 25 ∨ (t.kind = 31 ∧ t.kids.length = 1) ∨ (t.kind = 32 ∧ t.kids.length = 2) := by
  rw [valO_eq, oF] at h
  by_cases h1 : t.kind = 24
  · exact .inl h1
  by_cases h2 : t.kind = 25
  · exact .inr (.inl h2)
  rw [decide_eq_false h1, decide_eq_false h2] at h
  cases h3 : decide (t.kind = 31) && lenK t 1 with
  | true =>
    rw [Bool.and_eq_true, decide_eq_true_eq] at h3
    exact .inr (.inr (.inl ⟨h3.1, by (have hz := h3.2; first | (unfold lenK at hz; simp at hz; omega) | (simp at hz; omega))⟩))
  | false =>
    cases h4 : decide (t.kind = 32) && lenK t 2 with
    | true =>
      rw [Bool.and_eq_true, decide_eq_true_eq] at h4
      exact .inr (.inr (.inr ⟨h4.1, by (have hz := h4.2; first | (unfold lenK at hz; simp at hz; omega) | (simp at hz; omega))⟩))
    | false => rw [h3, h4] at h; cases h
theorem wrap_rng (x : Int) : rng (IntKind.i64.wrap x) := by
  rw [IntKind.wrap_i64, rng]; omega
def RngOk (x : Cst × Bool) : Prop := rng x.1.2
theorem ro_cond {c : Bool} {a b : Cst × Bool} (ha : RngOk a) (hb : RngOk b) : RngOk (bif c then a else b) := by cases c; exact hb; exact ha
theorem ro_tr (b : Bool) : RngOk (trC b) := by cases b <;> exact ⟨by decide, by decide⟩
theorem ro_wr (n : Int) : RngOk (nmC (IntKind.i64.wrap n)) := wrap_rng n
theorem ro_zc : RngOk zc := ⟨by decide, by decide⟩
theorem ro_mod {x y : Int} (hx : rng x) : RngOk (nmC (x.tmod y)) := by
  have h : (x.tmod y).natAbs ≤ x.natAbs := by rw [Int.natAbs_tmod]; exact Nat.mod_le _ _
  show rng (x.tmod y)
  unfold rng at hx ⊢
  by_cases hm : x = -9223372036854775808
  · have : (x.tmod y) ≤ 0 := by
      have := Int.tmod_nonneg y (a := -x) (by omega)
      rw [Int.neg_tmod] at this; omega
    omega
  · omega
theorem binF_rng (op : List UInt8) {x y : Cst} (hx : rng x.2) : RngOk (binF op x y) := by
  unfold binF
  repeat' (first | exact ro_tr _ | exact ro_zc | exact ro_wr _ | exact ro_mod hx | refine ro_cond ?_ ?_)
def RO (x : Option Cst) : Prop := ∀ c, x = some c → rng c.2
theorem rO_cond {c : Bool} {a b : Option Cst} (ha : RO a) (hb : RO b) : RO (bif c then a else b) := by cases c; exact hb; exact ha
theorem rO_none : RO none := fun c h => by cases h
theorem rO_some {b : Bool} {n : Int} (h : rng n) : RO (some (b, n)) := fun c hc => by injection hc with hc; rw [← hc]; exact h
theorem rO_one (t : Nd) (x : Option Cst) : RO (oneO t x) := by
  cases x with
  | none => exact rO_none
  | some c => exact rO_cond (rO_some (wrap_rng _)) (rO_cond (rO_some (wrap_rng _)) rO_none)
theorem rO_two (op : List UInt8) {x y : Option Cst} (hx : RO x) : RO (twoO op x y) := by
  cases x with
  | none => exact rO_none
  | some a =>
    cases y with
    | none => exact rO_none
    | some b => exact rO_cond (rO_cond (fun c hc => by injection hc with hc; rw [← hc]; exact binF_rng op (hx a rfl)) rO_none) rO_none
theorem valO_nd0 : valO nd0 = none := by rw [valO, valC_nd0]; rfl
theorem valO_ok : ∀ t, okNd t → ∀ c, valO t = some c → rng c.2 ∧ (c.1 = true → c.2 = 0 ∨ c.2 = 1) := by
  refine Nd.ind fun t ih hk c hc => ?_
  refine ⟨?_, fun hb => ?_⟩
  · have hkid : ∀ i, RO (valO (kidAt t i)) := fun i c h => by
      by_cases hi : i < t.kids.length
      · rw [kidAt_eq hi] at h; exact (ih _ (List.getElem_mem hi) (okNd_kid hk (List.getElem_mem hi)) c h).1
      · rw [kidAt_out hi, valO_nd0] at h; cases h
    have hnum : rng t.num := by rw [okNd_eq] at hk; exact hk.2.1
    have h : RO (valO t) := by
      rw [valO_eq, oF]
      exact rO_cond (rO_cond (rO_some hnum) rO_none) (rO_cond (rO_cond (rO_some hnum) rO_none) (rO_cond (rO_one _ _) (rO_cond (rO_two _ (hkid 0)) rO_none)))
    exact h c hc
  · obtain ⟨h1, rfl⟩ := valO_iff.1 hc
    exact valC_bool t h1 hb
/-! replaced constants -/
def nmP (n pos : Int) : Nd := .mk 24 [] n pos [] ty0 0 0
def boP (n pos : Int) : Nd := .mk 25 [] n pos [] ty0 0 0
theorem valO_nm {n pos : Int} (h : 0 ≤ n) : valO (nmP n pos) = some (false, n) := by
  rw [valO_eq]; show (bif (decide (0 ≤ n) && true) && true then some (false, n) else none) = some (false, n)
  rw [decide_eq_true h]; rfl
theorem valO_bo {n pos : Int} (h : n = 0 ∨ n = 1) : valO (boP n pos) = some (true, n) := by
  rcases h with rfl | rfl <;> (rw [valO_eq]; rfl)
theorem valO_un {n pos : Int} (h : 0 ≤ n) : valO (unN n pos) = some (false, IntKind.i64.wrap (0 - n)) := by
  rw [valO_eq]; show oneO (unN n pos) (valO (nmP n pos)) = _
  rw [valO_nm h]; rfl
theorem wrap_neg {x : Int} (h : rng x) (hm : x ≠ -9223372036854775808) : IntKind.i64.wrap (0 - x) = -x := by
  unfold rng at h; rw [i64_id ⟨by omega, by omega⟩]; omega
/-- What a constant is replaced by. -/
theorem repl_cases {c : Cst} {pos : Int} (hr : rng c.2) (h : (replT c pos).2 = true) : (c.1 = true ∧ (replT c pos).1 = boP c.2 pos) ∨ (c.1 = false ∧ 0 ≤ c.2 ∧ (replT c pos).1 = nmP c.2 pos) ∨ (c.1 = false ∧ c.2 < 0 ∧ c.2 ≠ -9223372036854775808 ∧ (replT c pos).1 = unN (-c.2) pos) := by
  unfold replT at h ⊢
  cases hc : c.1 with
  | true => exact .inl ⟨rfl, rfl⟩
  | false =>
    rw [hc] at h
    by_cases h0 : 0 ≤ c.2
    · rw [decide_eq_true h0]; exact .inr (.inl ⟨rfl, h0, rfl⟩)
    · rw [decide_eq_false h0] at h ⊢
      by_cases h1 : c.2 = -9223372036854775808
      · rw [decide_eq_true h1] at h; cases h
      · rw [decide_eq_false h1]
        refine .inr (.inr ⟨rfl, by omega, h1, ?_⟩)
        show unN (IntKind.i64.wrap (0 - c.2)) pos = _
        rw [wrap_neg hr h1]
theorem repl_none {c : Cst} {pos : Int} (h : (replT c pos).2 = false) : c.1 = false ∧ c.2 = -9223372036854775808 := by
  unfold replT at h
  cases hc : c.1 with
  | true => rw [hc] at h; cases h
  | false =>
    rw [hc] at h
    by_cases h0 : 0 ≤ c.2
    · rw [decide_eq_true h0] at h; cases h
    · rw [decide_eq_false h0] at h
      by_cases h1 : c.2 = -9223372036854775808
      · exact ⟨rfl, h1⟩
      · rw [decide_eq_false h1] at h; cases h
theorem valO_repl {c : Cst} {pos : Int} (hr : rng c.2) (hb : c.1 = true → c.2 = 0 ∨ c.2 = 1) (h : (replT c pos).2 = true) : valO (replT c pos).1 = some c := by
  obtain ⟨cb, cn⟩ := c
  rcases repl_cases hr h with ⟨h1, e⟩ | ⟨h1, h2, e⟩ | ⟨h1, h2, h3, e⟩ <;> rw [e] <;> simp only at h1 <;> subst h1
  · exact valO_bo (hb rfl)
  · exact valO_nm h2
  · simp only at h2 h3
    rw [valO_un (by simp only; omega)]
    simp only
    unfold rng at hr; simp only at hr
    rw [i64_id ⟨by omega, by omega⟩]
    congr 2; omega
/-! folded trees, case by case -/
def rebT (t : Nd) : Nd := .mk t.kind t.text (bif decide (t.kind = 24) || decide (t.kind = 25) then t.num else 0) t.pos (t.kids.map foldT) ty0 0 0
theorem reb_len (t : Nd) : (rebT t).kids.length = t.kids.length := by rw [rebT, Nd.kids, List.length_map]
def blP (pos : Int) : Nd := .mk 10 [] 0 pos [] ty0 0 0
theorem foldT_nd0 : foldT nd0 = nd0 := by rw [foldT_eq, foldF, valC_nd0]; rfl
theorem kidAt_reb (t : Nd) (i : Nat) : kidAt (rebT t) i = foldT (kidAt t i) := by
  have := getD_map' foldT t.kids i nd0
  rw [foldT_nd0] at this; exact this
theorem fold_cases {t : Nd} (hp : permF t = true) :
    (∃ c, valO t = some c ∧ (replT c t.pos).2 = true ∧ foldT t = (replT c t.pos).1) ∨
    (t.kind = 18 ∧ t.kids.length = 3 ∧ valO (kidAt t 0) ≠ none ∧ (foldT t = foldT (kidAt t 1) ∨ ((kidAt t 2).kind = 9 ∧ foldT t = blP t.pos) ∨ ((kidAt t 2).kind ≠ 9 ∧ foldT t = foldT (kidAt t 2)))) ∨
    ((∀ c, valO t = some c → (replT c t.pos).2 = false) ∧ (t.kind = 18 → valO (kidAt t 0) = none) ∧ foldT t = rebT t) := by
  cases h1 : (valC t).2 && (replT (valC t).1 t.pos).2 with
  | true =>
    rw [Bool.and_eq_true] at h1
    exact .inl ⟨(valC t).1, valO_iff.2 ⟨h1.1, rfl⟩, h1.2, by rw [foldT_eq, foldF, h1.1, h1.2]; rfl⟩
  | false =>
    have hn : ∀ c, valO t = some c → (replT c t.pos).2 = false := fun c hc => by
      obtain ⟨e1, e2⟩ := valO_iff.1 hc
      rw [← e2]; rw [e1] at h1; exact h1
    cases h2 : decide (t.kind = 18) && (valC (kidAt t 0)).2 with
    | true =>
      have h2' := h2
      rw [Bool.and_eq_true, decide_eq_true_eq] at h2'
      have hl := perm_18 h2'.1 hp
      refine .inr (.inl ⟨h2'.1, hl, by rw [valO, h2'.2]; exact Option.some_ne_none _, ?_⟩)
      rw [foldT_eq t, foldF, h1, h2]
      simp only [cond_true, cond_false]
      rw [getD_fold (show 1 < t.kids.length by omega), getD_fold (show 2 < t.kids.length by omega)]
      cases decide ((valC (kidAt t 0)).1.2 = 1) with
      | true => exact .inl rfl
      | false =>
        simp only [cond_false]
        by_cases h9 : (kidAt t 2).kind = 9
        · rw [decide_eq_true h9]; exact .inr (.inl ⟨h9, rfl⟩)
        · rw [decide_eq_false h9]; exact .inr (.inr ⟨h9, rfl⟩)
    | false =>
      refine .inr (.inr ⟨hn, fun h => ?_, by rw [foldT_eq, foldF, h1, h2]; rfl⟩)
      rw [decide_eq_true h, Bool.true_and] at h2
      rw [valO, h2]; rfl
theorem perm_18k {t : Nd} (h : t.kind = 18) (hp : permF t = true) : (kidAt t 1).kind = 10 ∧ ((kidAt t 2).kind = 10 ∨ (kidAt t 2).kind = 18 ∨ (kidAt t 2).kind = 9) := by
  rw [permF_eq, locB, Bool.and_eq_true, Bool.and_eq_true, formB, h] at hp
  have hf : (kidsB t [expK, memK [10], memK [10, 18, 9]] && t.kids.all permF) = true := Bool.and_eq_true_iff.2 ⟨hp.1.2, hp.2⟩
  rw [kids_3] at hf
  simp only [Bool.and_eq_true, memK, decide_eq_true_eq, List.mem_cons, List.not_mem_nil, or_false] at hf
  exact ⟨hf.2.1.2.1, hf.2.2.1⟩
theorem valO_none {t : Nd} (h1 : t.kind ≠ 24) (h2 : t.kind ≠ 25) (h3 : t.kind ≠ 31) (h4 : t.kind ≠ 32) : valO t = none := by
  cases h : valO t with
  | none => rfl
  | some c => rcases valO_kind h with e | e | e | e <;> first | exact absurd e (by assumption) | exact absurd e.1 (by assumption)
theorem perm_kidAt {t : Nd} (hp : permF t = true) {i : Nat} (h : i < t.kids.length) : permF (kidAt t i) = true := by
  rw [kidAt_eq h]; exact perm_kid hp (List.getElem_mem h)
theorem valO_fold : ∀ t, permF t = true → okNd t → valO (foldT t) = valO t := by
  refine Nd.ind fun t ih hp hk => ?_
  have ihk : ∀ i, i < t.kids.length → valO (foldT (kidAt t i)) = valO (kidAt t i) := fun i h => by
    have h1 := perm_kidAt hp h
    rw [kidAt_eq h] at h1 ⊢; exact ih _ (List.getElem_mem h) h1 (okNd_kid hk (List.getElem_mem h))
  rcases fold_cases hp with ⟨c, h1, h2, e⟩ | ⟨h1, h2, _, e⟩ | ⟨h1, _, e⟩
  · obtain ⟨o1, o2⟩ := valO_ok t hk c h1
    rw [e, h1]; exact valO_repl o1 o2 h2
  · obtain ⟨k1, k2⟩ := perm_18k h1 hp
    have hn : valO t = none := valO_none (by omega) (by omega) (by omega) (by omega)
    rw [hn]
    rcases e with e | ⟨_, e⟩ | ⟨h9, e⟩ <;> rw [e]
    · rw [ihk 1 (by omega)]; exact valO_none (by omega) (by omega) (by omega) (by omega)
    · exact valO_none (t := blP t.pos) (show (10 : Int) ≠ 24 by decide) (show (10 : Int) ≠ 25 by decide) (show (10 : Int) ≠ 31 by decide) (show (10 : Int) ≠ 32 by decide)
    · rw [ihk 2 (by omega)]; exact valO_none (by omega) (by omega) (by omega) (by omega)
  · rw [e, valO_eq (rebT t), valO_eq t]
    have hr : (fun i => valO (kidAt (rebT t) i)) = fun i => valO (kidAt t i) := funext fun i => by
      rw [kidAt_reb]
      by_cases h : i < t.kids.length
      · exact ihk i h
      · rw [kidAt_out h, foldT_nd0]
    rw [hr]
    have hl : ∀ n, lenK (rebT t) n = lenK t n := fun n => by rw [lenK, lenK, reb_len]
    unfold oF
    rw [hl, hl, hl]
    show (bif decide (t.kind = 24) then (bif (decide (0 ≤ (bif decide (t.kind = 24) || decide (t.kind = 25) then t.num else 0)) && plainB t) && lenK t 0 then some (false, (bif decide (t.kind = 24) || decide (t.kind = 25) then t.num else 0)) else none) else bif decide (t.kind = 25) then (bif ((decide ((bif decide (t.kind = 24) || decide (t.kind = 25) then t.num else 0) = 0) || decide ((bif decide (t.kind = 24) || decide (t.kind = 25) then t.num else 0) = 1)) && plainB t) && lenK t 0 then some (true, (bif decide (t.kind = 24) || decide (t.kind = 25) then t.num else 0)) else none) else bif decide (t.kind = 31) && lenK t 1 then oneO t (valO (kidAt t 0)) else bif decide (t.kind = 32) && lenK t 2 then twoO t.text (valO (kidAt t 0)) (valO (kidAt t 1)) else none) = _
    cases decide (t.kind = 24) <;> cases decide (t.kind = 25) <;> rfl
end Go.Rk
