/- Folding: a folded file is a file, folding again changes nothing; plain laws. Conditions: none. -/
import Derived.Test.YtheifopckahdiaaDoorFldF
namespace Go.Rk
open Go Go.RowKit
theorem okNd_kidAt {t : Nd} (hk : okNd t) {i : Nat} (h : i < t.kids.length) : okNd (kidAt t i) := by
  rw [kidAt_eq h]; exact okNd_kid hk (List.getElem_mem h)
/-- How the kind of a node may change. -/
def KindR (a b : Int) : Prop := b = a ∨ (a = 18 ∧ b = 10) ∨ ((a = 24 ∨ a = 25 ∨ a = 31 ∨ a = 32) ∧ (b = 24 ∨ b = 25 ∨ b = 31))
theorem kind_fold : ∀ t, permF t = true → okNd t → KindR t.kind (foldT t).kind := by
  refine Nd.ind fun t ih hp hk => ?_
  have ihk : ∀ i, i < t.kids.length → KindR (kidAt t i).kind (foldT (kidAt t i)).kind := fun i h => by
    have h1 := perm_kidAt hp h
    rw [kidAt_eq h] at h1 ⊢; exact ih _ (List.getElem_mem h) h1 (okNd_kid hk (List.getElem_mem h))
  rcases fold_cases hp with ⟨c, h1, h2, e⟩ | ⟨h1, h2, _, e⟩ | ⟨h1, _, e⟩
  · obtain ⟨o1, o2⟩ := valO_ok t hk c h1
    have hk' : t.kind = 24 ∨ t.kind = 25 ∨ t.kind = 31 ∨ t.kind = 32 := by
      rcases valO_kind h1 with h | h | h | h
      · exact .inl h
      · exact .inr (.inl h)
      · exact .inr (.inr (.inl h.1))
      · exact .inr (.inr (.inr h.1))
    refine .inr (.inr ⟨hk', ?_⟩)
    rw [e]
    rcases repl_cases o1 h2 with ⟨_, e⟩ | ⟨_, _, e⟩ | ⟨_, _, _, e⟩ <;> rw [e]
    · exact .inr (.inl rfl)
    · exact .inl rfl
    · exact .inr (.inr rfl)
  · obtain ⟨k1, k2⟩ := perm_18k h1 hp
    have i1 := ihk 1 (by omega)
    have i2 := ihk 2 (by omega)
    unfold KindR at i1 i2 ⊢
    rcases e with e | ⟨_, e⟩ | ⟨h9, e⟩ <;> rw [e]
    · omega
    · exact .inr (.inl ⟨h1, rfl⟩)
    · omega
  · rw [e]; exact .inl rfl
/-- Conditions on kinds that folding keeps. -/
def Clo (q : Int → Bool) : Prop := (q 18 = true → q 10 = true) ∧ ((q 24 || q 25 || q 31 || q 32) = true → q 24 = true ∧ q 25 = true ∧ q 31 = true)
theorem clo_fold {q : Int → Bool} (hq : Clo q) {t : Nd} (hp : permF t = true) (hk : okNd t) (h : q t.kind = true) : q (foldT t).kind = true := by
  rcases kind_fold t hp hk with e | ⟨e1, e2⟩ | ⟨e1, e2⟩
  · rw [e]; exact h
  · rw [e2]; rw [e1] at h; exact hq.1 h
  · have h3 : (q 24 || q 25 || q 31 || q 32) = true := by
      rcases e1 with e | e | e | e <;> rw [e] at h <;> rw [h] <;> simp
    obtain ⟨a, b, c⟩ := hq.2 h3
    rcases e2 with e | e | e <;> rw [e] <;> assumption
theorem kidsB_reb {t : Nd} {qs : List (Int → Bool)} (hq : ∀ q ∈ qs, Clo q) (hp : t.kids.all permF = true) (hk : okNd t) (h : kidsB t qs = true) : kidsB (rebT t) qs = true := by
  rw [kidsB, Bool.and_eq_true, decide_eq_true_eq, List.all_eq_true] at h ⊢
  refine ⟨by rw [reb_len]; exact h.1, fun i hi => ?_⟩
  have hi' := List.mem_range.1 hi
  have hlt : i < t.kids.length := by omega
  rw [kidAt_reb]
  have hm : qs.getD i (fun _ => false) ∈ qs := by
    rw [List.getD_eq_getElem?_getD, List.getElem?_eq_getElem hi']; exact List.getElem_mem hi'
  exact clo_fold (hq _ hm) (by rw [kidAt_eq hlt]; exact (List.all_eq_true.1 hp) _ (List.getElem_mem hlt)) (okNd_kidAt hk hlt) (h.2 i hi)
theorem everyB_reb {t : Nd} {q : Int → Bool} (hq : Clo q) (hp : t.kids.all permF = true) (hk : okNd t) (h : everyB t q = true) : everyB (rebT t) q = true := by
  rw [everyB, List.all_eq_true] at h ⊢
  intro x hx
  obtain ⟨k, hkm, rfl⟩ := List.mem_map.1 hx
  exact clo_fold hq ((List.all_eq_true.1 hp) k hkm) (okNd_kid hk hkm) (h k hkm)
theorem fold_reb {t : Nd} (hp : permF t = true) (h1 : valO t = none) (h2 : t.kind ≠ 18) : foldT t = rebT t := by
  rcases fold_cases hp with ⟨c, h, _⟩ | ⟨h, _⟩ | ⟨_, _, e⟩
  · rw [h1] at h; cases h
  · exact absurd h h2
  · exact e
theorem kidAt_kind {t : Nd} {i : Nat} {k : Int} (h : (kidAt t i).kind = k) (hk : k ≠ 0) : i < t.kids.length := by
  rcases Nat.lt_or_ge i t.kids.length with h1 | h1
  · exact h1
  · rw [kidAt_out (by omega)] at h; exact absurd h.symm hk
theorem kind_same {t : Nd} (hp : permF t = true) (hk : okNd t) {k : Int} (h : t.kind = k) (h1 : k ≠ 18) (h2 : k ≠ 24) (h3 : k ≠ 25) (h4 : k ≠ 31) (h5 : k ≠ 32) : (foldT t).kind = k := by
  rcases kind_fold t hp hk with e | ⟨e1, _⟩ | ⟨e1, _⟩ <;> omega
theorem comm_fold {t : Nd} (hp : permF t = true) (hk : okNd t) (h : commB t = true) : commB (foldT t) = true := by
  have hs : t.kind = 9 ∨ t.kind = 16 ∨ t.kind = 13 ∨ t.kind = 11 ∨ t.kind = 12 := by
    unfold commB at h
    by_cases a : t.kind = 9
    · exact .inl a
    by_cases b : t.kind = 16
    · exact .inr (.inl b)
    by_cases c : t.kind = 13
    · exact .inr (.inr (.inl c))
    by_cases d : t.kind = 11
    · exact .inr (.inr (.inr (.inl d)))
    by_cases e : t.kind = 12
    · exact .inr (.inr (.inr (.inr e)))
    simp only [anyK, decide_eq_false a, decide_eq_false b, decide_eq_false c, decide_eq_false d, decide_eq_false e, Bool.or_false, cond_false] at h
    cases h
  have e := fold_reb hp (valO_none (by omega) (by omega) (by omega) (by omega)) (by omega)
  rw [e]
  have hk0 : ∀ i, (kidAt t i).kind = 33 → (kidAt (rebT t) i).kind = 33 := fun i h => by
    have hi := kidAt_kind h (by decide)
    rw [kidAt_reb]; exact kind_same (perm_kidAt hp hi) (okNd_kidAt hk hi) h (by decide) (by decide) (by decide) (by decide) (by decide)
  unfold commB at h ⊢
  rw [reb_len]
  show (bif anyK [9, 16] t.kind then true else bif anyK [13, 11] t.kind then decide (((t.kids.length : Int) - 1) = 0) && decide ((kidAt (rebT t) 0).kind = 33) else bif decide (t.kind = 12) then decide (((t.kids.length : Int) - 1) = 1) && decide ((kidAt (rebT t) 1).kind = 33) else false) = true
  revert h
  cases anyK [9, 16] t.kind with
  | true => exact fun _ => rfl
  | false =>
  cases anyK [13, 11] t.kind with
  | true =>
    simp only [cond_false, cond_true, Bool.and_eq_true, decide_eq_true_eq]
    exact fun h => ⟨h.1, hk0 0 h.2⟩
  | false =>
  cases decide (t.kind = 12) with
  | true =>
    simp only [cond_false, cond_true, Bool.and_eq_true, decide_eq_true_eq]
    exact fun h => ⟨h.1, hk0 1 h.2⟩
  | false => exact fun h => h
theorem fileVar_fold {t : Nd} (hp : permF t = true) (hk : okNd t) (h : fileVarB t = false) : fileVarB (foldT t) = false := by
  by_cases h6 : t.kind = 6
  · have e := fold_reb hp (valO_none (by omega) (by omega) (by omega) (by omega)) (by omega)
    have hl := perm_len2 (.inr h6) hp
    rw [fileVarB, decide_eq_true h6, show lenK t 2 = true by rw [lenK, decide_eq_true_eq]; omega] at h
    have h9 : (kidAt t 1).kind = 9 := by simpa using h
    have h9' : (kidAt (rebT t) 1).kind = 9 := by
      rw [kidAt_reb]; exact kind_same (perm_kidAt hp (by omega)) (okNd_kidAt hk (by omega)) h9 (by decide) (by decide) (by decide) (by decide) (by decide)
    rw [e, fileVarB, h9', show lenK (rebT t) 2 = true by rw [lenK, decide_eq_true_eq, reb_len]; omega]
    simp
  · have : (foldT t).kind ≠ 6 := by rcases kind_fold t hp hk with e | ⟨e1, e2⟩ | ⟨e1, e2⟩ <;> omega
    rw [fileVarB, decide_eq_false this]; rfl
theorem bif_imp {c a b a' b' : Bool} (h : (bif c then a else b) = true) (ha : c = true → a = true → a' = true) (hb : b = true → b' = true) : (bif c then a' else b') = true := by
  cases c
  · exact hb h
  · exact ha rfl h
theorem form_reb {t : Nd} (hp : t.kids.all permF = true) (hk : okNd t) (h : formB t = true) : formB (rebT t) = true := by
  have hl : ∀ n, lenK (rebT t) n = lenK t n := fun n => by rw [lenK, lenK, reb_len]
  have hK := fun (qs : List (Int → Bool)) (hq : ∀ q ∈ qs, Clo q) => kidsB_reb (qs := qs) hq hp hk
  have hE := fun (q : Int → Bool) (hq : Clo q) => everyB_reb (q := q) hq hp hk
  unfold formB at h ⊢
  refine bif_imp h (fun _ h => ?_) fun h => bif_imp h (fun _ h => hE _ ⟨by decide, by decide⟩ h) fun h => bif_imp h (fun _ h => hK _ (by simp only [List.mem_cons, List.not_mem_nil, or_false, forall_eq]; exact ⟨by decide, by decide⟩) h) fun h => bif_imp h (fun _ h => hK _ (fun q hq => ?_) h) fun h => bif_imp h (fun _ h => hK _ (fun q hq => ?_) h) fun h =>
    bif_imp h (fun _ h => hE _ ⟨by decide, by decide⟩ h) fun h => bif_imp h (fun _ h => hK _ (fun q hq => ?_) h) fun h => bif_imp h (fun _ h => hK _ (fun q hq => ?_) h) fun h => bif_imp h (fun _ h => hK _ (fun q hq => ?_) h) fun h => bif_imp h (fun _ h => hK _ (fun q hq => ?_) h) fun h =>
    bif_imp h (fun _ h => hK _ (fun q hq => ?_) h) fun h => bif_imp h (fun _ h => hK _ (fun q hq => ?_) h) fun h => bif_imp h (fun _ h => ?_) fun h => bif_imp h (fun _ h => hE _ ⟨by decide, by decide⟩ h) fun h => bif_imp h (fun _ h => ?_) fun h => bif_imp h (fun _ h => ?_) fun h =>
    bif_imp h (fun hc h => ?_) fun h => bif_imp h (fun hc h => ?_) fun h => bif_imp h (fun _ h => by rw [hl]; exact h) fun h => bif_imp h (fun _ h => hK _ (fun q hq => ?_) h) fun h => h
  · rw [Bool.and_eq_true, Bool.not_eq_true', List.any_eq_false] at h ⊢
    refine ⟨fun x hx => ?_, hE _ ⟨by decide, by decide⟩ h.2⟩
    obtain ⟨k, hkm, rfl⟩ := List.mem_map.1 hx
    rw [fileVar_fold ((List.all_eq_true.1 hp) k hkm) (okNd_kid hk hkm) (by simpa using h.1 k hkm)]; simp
  · simp only [List.mem_cons, List.not_mem_nil, or_false] at hq
    rcases hq with rfl | rfl | rfl <;> exact ⟨by decide, by decide⟩
  · simp only [List.mem_cons, List.not_mem_nil, or_false] at hq
    rcases hq with rfl | rfl <;> exact ⟨by decide, by decide⟩
  · simp only [List.mem_cons, List.not_mem_nil, or_false] at hq
    rcases hq with rfl; exact ⟨by decide, by decide⟩
  · simp only [List.mem_cons, List.not_mem_nil, or_false] at hq
    rcases hq with rfl | rfl <;> exact ⟨by decide, by decide⟩
  · simp only [List.mem_cons, List.not_mem_nil, or_false] at hq
    rcases hq with rfl; exact ⟨by decide, by decide⟩
  · simp only [List.mem_cons, List.not_mem_nil, or_false] at hq
    rcases hq with rfl; exact ⟨by decide, by decide⟩
  · simp only [List.mem_cons, List.not_mem_nil, or_false] at hq
    rcases hq with rfl | rfl | rfl <;> exact ⟨by decide, by decide⟩
  · simp only [List.mem_cons, List.not_mem_nil, or_false] at hq
    rcases hq with rfl | rfl <;> exact ⟨by decide, by decide⟩
  · rw [Bool.or_eq_true] at h ⊢
    rcases h with h | h
    · exact .inl (by rw [hl]; exact h)
    · exact .inr (hK _ (by simp only [List.mem_cons, List.not_mem_nil, or_false, forall_eq]; exact ⟨by decide, by decide⟩) h)
  · rw [Bool.and_eq_true, Bool.and_eq_true] at h ⊢
    have h2 : t.kids.length = 2 := by (have hz := h.1.1; first | (unfold lenK at hz; simp at hz; omega) | (simp at hz; omega))
    refine ⟨⟨by rw [hl]; exact h.1.1, ?_⟩, ?_⟩
    · rw [kidAt_reb]; exact comm_fold (by rw [kidAt_eq (by omega)]; exact (List.all_eq_true.1 hp) _ (List.getElem_mem _)) (okNd_kidAt hk (by omega)) h.1.2
    · rw [kidAt_reb]; exact clo_fold (q := memK [10]) ⟨by decide, by decide⟩ (by rw [kidAt_eq (by omega)]; exact (List.all_eq_true.1 hp) _ (List.getElem_mem _)) (okNd_kidAt hk (by omega)) h.2
  · rw [Bool.and_eq_true] at h ⊢
    exact ⟨by rw [reb_len]; exact h.1, hE _ ⟨by decide, by decide⟩ h.2⟩
  · have hn : (rebT t).num = t.num := by
      show (bif decide (t.kind = 24) || decide (t.kind = 25) then t.num else 0) = t.num
      rw [show decide (t.kind = 24) = true from hc]; rfl
    rw [hl, hn]; exact h
  · have hn : (rebT t).num = t.num := by
      show (bif decide (t.kind = 24) || decide (t.kind = 25) then t.num else 0) = t.num
      rw [show decide (t.kind = 25) = true from hc, Bool.or_true]; rfl
    rw [hl, hn]; exact h
  · simp only [List.mem_cons, List.not_mem_nil, or_false] at hq
    rcases hq with rfl; exact ⟨by decide, by decide⟩
theorem perm_reb {t : Nd} (hp : permF t = true) (hk : okNd t) (ih : ∀ k ∈ t.kids, permF (foldT k) = true) : permF (rebT t) = true := by
  rw [permF_eq, locB, Bool.and_eq_true, Bool.and_eq_true] at hp ⊢
  refine ⟨⟨hp.1.1, form_reb hp.2 hk hp.1.2⟩, ?_⟩
  rw [List.all_eq_true]
  intro x hx
  obtain ⟨k, hkm, rfl⟩ := List.mem_map.1 hx
  exact ih k hkm
theorem perm_bo {n pos : Int} (h : n = 0 ∨ n = 1) : permF (boP n pos) = true := by
  rcases h with rfl | rfl <;> (rw [permF_eq]; rfl)
theorem perm_nm {n pos : Int} (h : 0 ≤ n) : permF (nmP n pos) = true := by
  rw [permF_eq]; show ((true && (true && decide (0 ≤ n))) && true) = true
  rw [decide_eq_true h]; rfl
theorem perm_un {n pos : Int} (h : 0 ≤ n) : permF (unN n pos) = true := by
  rw [permF_eq]; show (true && (permF (nmP n pos) && true)) = true
  rw [perm_nm h]; rfl
theorem perm_bl (pos : Int) : permF (blP pos) = true := by rw [permF_eq]; rfl
theorem perm_fold : ∀ t, permF t = true → okNd t → permF (foldT t) = true := by
  refine Nd.ind fun t ih hp hk => ?_
  have ihk : ∀ k ∈ t.kids, permF (foldT k) = true := fun k hm => ih k hm (perm_kid hp hm) (okNd_kid hk hm)
  have ihi : ∀ i, i < t.kids.length → permF (foldT (kidAt t i)) = true := fun i h => by rw [kidAt_eq h]; exact ihk _ (List.getElem_mem h)
  rcases fold_cases hp with ⟨c, h1, h2, e⟩ | ⟨h1, h2, _, e⟩ | ⟨h1, _, e⟩
  · obtain ⟨o1, o2⟩ := valO_ok t hk c h1
    rw [e]
    rcases repl_cases o1 h2 with ⟨q, e⟩ | ⟨_, q, e⟩ | ⟨_, q, _, e⟩ <;> rw [e]
    · exact perm_bo (o2 q)
    · exact perm_nm q
    · exact perm_un (by omega)
  · rcases e with e | ⟨_, e⟩ | ⟨_, e⟩ <;> rw [e]
    · exact ihi 1 (by omega)
    · exact perm_bl _
    · exact ihi 2 (by omega)
  · rw [e]; exact perm_reb hp hk ihk
theorem neg_kids {t : Nd} {c : Cst} (h : valO t = some c) (h1 : c.1 = false) (h2 : c.2 < 0) : ∃ k, k ∈ t.kids := by
  have hl : 0 < t.kids.length := by
    rcases valO_kind h with e | e | e | e
    · rw [valO_eq, oF, decide_eq_true e] at h
      revert h
      simp only [cond_true]
      cases hx : (decide (0 ≤ t.num) && plainB t) && lenK t 0 with
      | false => intro h; cases h
      | true =>
        intro h; injection h with h
        rw [Bool.and_eq_true, Bool.and_eq_true, decide_eq_true_eq] at hx
        rw [← h] at h2; exact absurd hx.1.1 (by simp only at h2; omega)
    · rw [valO_eq, oF, decide_eq_false (by omega), decide_eq_true e] at h
      revert h
      simp only [cond_true, cond_false]
      cases ((decide (t.num = 0) || decide (t.num = 1)) && plainB t) && lenK t 0 with
      | false => intro h; cases h
      | true => intro h; injection h with h; rw [← h] at h1; cases h1
    · omega
    · omega
  exact ⟨_, List.getElem_mem hl⟩
theorem depth_kid {t k : Nd} (h : k ∈ t.kids) : depthN k + 1 ≤ depthN t := by
  have := ((depthN_le t (depthN t)).1 (Nat.le_refl _)).2 k h
  have := depthN_pos t
  have := depthN_pos k
  omega
theorem depth_leaf {t : Nd} (h : t.kids = []) : depthN t = 1 := by rw [depthN_eq, h]; rfl
theorem count_leaf {t : Nd} (h : t.kids = []) : count t = 1 := by rw [count_eq, h]; rfl
/-- A folded tree is no deeper and has no more nodes. -/
theorem size_fold : ∀ t, permF t = true → okNd t → depthN (foldT t) ≤ depthN t ∧ count (foldT t) ≤ count t := by
  refine Nd.ind fun t ih hp hk => ?_
  have ihk : ∀ k ∈ t.kids, depthN (foldT k) ≤ depthN k ∧ count (foldT k) ≤ count k := fun k hm => ih k hm (perm_kid hp hm) (okNd_kid hk hm)
  have ihi : ∀ i, i < t.kids.length → depthN (foldT (kidAt t i)) ≤ depthN t ∧ count (foldT (kidAt t i)) ≤ count t := fun i h => by
    rw [kidAt_eq h]
    have h1 := ihk _ (List.getElem_mem h)
    have h2 := depth_kid (List.getElem_mem h)
    have h3 := count_mem (List.getElem_mem h)
    omega
  have hd := depthN_pos t
  have hc := count_pos t
  rcases fold_cases hp with ⟨c, h1, h2, e⟩ | ⟨h1, h2, _, e⟩ | ⟨h1, _, e⟩
  · obtain ⟨o1, o2⟩ := valO_ok t hk c h1
    rw [e]
    rcases repl_cases o1 h2 with ⟨q, e⟩ | ⟨_, q, e⟩ | ⟨q0, q, _, e⟩ <;> rw [e]
    · rw [depth_leaf (show (boP c.2 t.pos).kids = [] from rfl), count_leaf (show (boP c.2 t.pos).kids = [] from rfl)]; omega
    · rw [depth_leaf (show (nmP c.2 t.pos).kids = [] from rfl), count_leaf (show (nmP c.2 t.pos).kids = [] from rfl)]; omega
    · obtain ⟨k, hm⟩ := neg_kids h1 q0 q
      have := depth_kid hm
      have := count_mem hm
      have := depthN_pos k
      have := count_pos k
      have e1 : depthN (unN (-c.2) t.pos) = 2 := by
        rw [depthN_eq]; show maxL [depthN (nmP (-c.2) t.pos)] + 1 = 2
        rw [depth_leaf (show (nmP (-c.2) t.pos).kids = [] from rfl)]; rfl
      have e2 : count (unN (-c.2) t.pos) = 2 := by
        rw [count_eq]; show 1 + [count (nmP (-c.2) t.pos)].sum = 2
        rw [count_leaf (show (nmP (-c.2) t.pos).kids = [] from rfl)]; rfl
      omega
  · rcases e with e | ⟨_, e⟩ | ⟨_, e⟩ <;> rw [e]
    · exact ihi 1 (by omega)
    · rw [depth_leaf (show (blP t.pos).kids = [] from rfl), count_leaf (show (blP t.pos).kids = [] from rfl)]; omega
    · exact ihi 2 (by omega)
  · rw [e]
    constructor
    · rw [depthN_le]
      refine ⟨hd, fun x hx => ?_⟩
      obtain ⟨k, hm, rfl⟩ := List.mem_map.1 hx
      have h3 := ihk k hm
      have := depth_kid hm
      omega
    · rw [count_eq, count_eq t]
      show 1 + ((t.kids.map foldT).map count).sum ≤ 1 + (t.kids.map count).sum
      have : ∀ l : List Nd, (∀ k ∈ l, count (foldT k) ≤ count k) → ((l.map foldT).map count).sum ≤ (l.map count).sum := by
        intro l
        induction l with
        | nil => intro _; exact Nat.le_refl _
        | cons x xs ihx =>
          intro h
          have := h x (List.mem_cons_self ..)
          have := ihx fun k hk => h k (List.mem_cons_of_mem _ hk)
          simp only [List.map_cons, List.sum_cons]; omega
      have := this t.kids fun k hm => (ihk k hm).2
      omega
theorem valid_fold {t : Nd} (hv : validB t = true) (hk : okNd t) : validB (foldT t) = true := by
  have hp := validB_perm hv
  rw [validB, permB, Bool.and_eq_true, Bool.and_eq_true, decide_eq_true_eq, decide_eq_true_eq] at hv ⊢
  have := (size_fold t hp hk).1
  exact ⟨kind_same hp hk hv.1 (by decide) (by decide) (by decide) (by decide) (by decide), perm_fold t hp hk, by omega⟩
theorem fold_val {t : Nd} {c : Cst} (h : valO t = some c) (h2 : (replT c t.pos).2 = true) : foldT t = (replT c t.pos).1 := by
  obtain ⟨h1, rfl⟩ := valO_iff.1 h
  rw [foldT_eq, foldF, h1, h2]; rfl
theorem fold_again : ∀ t, permF t = true → okNd t → foldT (foldT t) = foldT t := by
  refine Nd.ind fun t ih hp hk => ?_
  have ihk : ∀ k ∈ t.kids, foldT (foldT k) = foldT k := fun k hm => ih k hm (perm_kid hp hm) (okNd_kid hk hm)
  have ihi : ∀ i, i < t.kids.length → foldT (foldT (kidAt t i)) = foldT (kidAt t i) := fun i h => by rw [kidAt_eq h]; exact ihk _ (List.getElem_mem h)
  have hvf := valO_fold t hp hk
  have hpf := perm_fold t hp hk
  rcases fold_cases hp with ⟨c, h1, h2, e⟩ | ⟨h1, h2, _, e⟩ | ⟨h1, h18, e⟩
  · obtain ⟨o1, o2⟩ := valO_ok t hk c h1
    have hpos : (replT c t.pos).1.pos = t.pos := by
      rcases repl_cases o1 h2 with ⟨_, e⟩ | ⟨_, _, e⟩ | ⟨_, _, _, e⟩ <;> rw [e] <;> rfl
    have hv := valO_repl o1 o2 h2
    rw [e, fold_val hv (by rw [hpos]; exact h2), hpos]
  · rcases e with e | ⟨_, e⟩ | ⟨_, e⟩ <;> rw [e]
    · exact ihi 1 (by omega)
    · rw [foldT_eq, foldF, show valC (blP t.pos) = zc by rw [valC_eq]; rfl]; rfl
    · exact ihi 2 (by omega)
  · rw [e] at hvf hpf ⊢
    rcases fold_cases hpf with ⟨c, q1, q2, _⟩ | ⟨q1, _, q3, _⟩ | ⟨_, _, q⟩
    · rw [hvf] at q1
      have := h1 c q1
      rw [show (rebT t).pos = t.pos from rfl, this] at q2; cases q2
    · have q1 : t.kind = 18 := q1
      have hl := perm_18 q1 hp
      rw [kidAt_reb, valO_fold _ (perm_kidAt hp (by omega)) (okNd_kidAt hk (by omega))] at q3
      exact absurd (h18 q1) q3
    · rw [q]
      have hm : (t.kids.map foldT).map foldT = t.kids.map foldT := by
        rw [List.map_map]; exact List.map_congr_left fun k hm => ihk k hm
      show Nd.mk t.kind t.text (bif decide (t.kind = 24) || decide (t.kind = 25) then (bif decide (t.kind = 24) || decide (t.kind = 25) then t.num else 0) else 0) t.pos ((t.kids.map foldT).map foldT) ty0 0 0 = _
      rw [hm, rebT]
      cases decide (t.kind = 24) || decide (t.kind = 25) <;> rfl
theorem mem_listN {t x : Nd} : x ∈ listN t ↔ x = t ∨ ∃ k, k ∈ t.kids ∧ x ∈ listN k := by
  rw [listN_eq, List.mem_cons, List.mem_flatMap]
theorem list_leaf {t x : Nd} (h : t.kids = []) (hx : x ∈ listN t) : x = t := by
  rcases mem_listN.1 hx with e | ⟨k, hk, _⟩
  · exact e
  · rw [h] at hk; cases hk
theorem list_un {n pos : Int} {x : Nd} (hx : x ∈ listN (unN n pos)) : x = unN n pos ∨ x = nmP n pos := by
  rcases mem_listN.1 hx with e | ⟨k, hk, hx⟩
  · exact .inl e
  · have hk : k ∈ [nmP n pos] := hk
    rw [List.mem_singleton.1 hk] at hx
    exact .inr (list_leaf rfl hx)
/-- No condition of a folded tree is constant; what is constant is a number, or the least one. -/
theorem list_fold : ∀ t, permF t = true → okNd t → ∀ x ∈ listN (foldT t), (x.kind = 18 → valO (kidAt x 0) = none) ∧
    (∀ c, valO x = some c → x.kind = 24 ∨ x.kind = 25 ∨ (x.kind = 31 ∧ x.text = [45] ∧ (kidAt x 0).kind = 24 ∧ c.2 < 0) ∨ c.2 = -9223372036854775808) := by
  refine Nd.ind fun t ih hp hk x hx => ?_
  have ihk : ∀ k ∈ t.kids, ∀ x ∈ listN (foldT k), _ := fun k hm => ih k hm (perm_kid hp hm) (okNd_kid hk hm)
  have ihi : ∀ i, i < t.kids.length → ∀ x ∈ listN (foldT (kidAt t i)), (x.kind = 18 → valO (kidAt x 0) = none) ∧ (∀ c, valO x = some c → x.kind = 24 ∨ x.kind = 25 ∨ (x.kind = 31 ∧ x.text = [45] ∧ (kidAt x 0).kind = 24 ∧ c.2 < 0) ∨ c.2 = -9223372036854775808) := fun i h => by rw [kidAt_eq h]; exact ihk _ (List.getElem_mem h)
  rcases fold_cases hp with ⟨c, h1, h2, e⟩ | ⟨h1, h2, _, e⟩ | ⟨h1, h18, e⟩
  · obtain ⟨o1, o2⟩ := valO_ok t hk c h1
    rw [e] at hx
    rcases repl_cases o1 h2 with ⟨_, e⟩ | ⟨_, _, e⟩ | ⟨q0, q, qm, e⟩ <;> rw [e] at hx
    · rw [list_leaf rfl hx]; exact ⟨fun h => absurd h (show (25 : Int) ≠ 18 by decide), fun _ _ => .inr (.inl rfl)⟩
    · rw [list_leaf rfl hx]; exact ⟨fun h => absurd h (show (24 : Int) ≠ 18 by decide), fun _ _ => .inl rfl⟩
    · rcases list_un hx with hx | hx <;> rw [hx]
      · refine ⟨fun h => absurd h (show (31 : Int) ≠ 18 by decide), fun d hd => .inr (.inr (.inl ⟨rfl, rfl, rfl, ?_⟩))⟩
        rw [valO_un (by omega)] at hd
        injection hd with hd
        rw [← hd]; simp only
        unfold rng at o1
        rw [i64_id ⟨by omega, by omega⟩]; omega
      · exact ⟨fun h => absurd h (show (24 : Int) ≠ 18 by decide), fun _ _ => .inl rfl⟩
  · rcases e with e | ⟨_, e⟩ | ⟨_, e⟩ <;> rw [e] at hx
    · exact ihi 1 (by omega) x hx
    · rw [list_leaf rfl hx]
      refine ⟨fun h => absurd h (show (10 : Int) ≠ 18 by decide), fun c hc => ?_⟩
      rw [valO_none (t := blP t.pos) (show (10 : Int) ≠ 24 by decide) (show (10 : Int) ≠ 25 by decide) (show (10 : Int) ≠ 31 by decide) (show (10 : Int) ≠ 32 by decide)] at hc; cases hc
    · exact ihi 2 (by omega) x hx
  · have hvf := valO_fold t hp hk
    rw [e] at hx hvf
    rcases mem_listN.1 hx with rfl | ⟨k, hkm, hx⟩
    · refine ⟨fun h => ?_, fun c hc => .inr (.inr (.inr ?_))⟩
      · have h : t.kind = 18 := h
        have hl := perm_18 h hp
        rw [kidAt_reb, valO_fold _ (perm_kidAt hp (by omega)) (okNd_kidAt hk (by omega))]; exact h18 h
      · rw [hvf] at hc; exact (repl_none (h1 c hc)).2
    · have hkm : k ∈ t.kids.map foldT := hkm
      obtain ⟨m, hm, rfl⟩ := List.mem_map.1 hkm
      exact ihk m hm x hx
end Go.Rk
