/- Merged texts of one road: SynD, SynE, SynF, SynG, SynH, Max, SynI, SynJ, Stp, Shp, Txt. Conditions: each text's own. -/
import Derived.Test.YtheifopckahdiaaDoorB07
import Derived.Test.YtheifopckahdiaaDoorB01
import Derived.Lib.ItoaNum
set_option linter.unusedSimpArgs false
set_option linter.unusedVariables false
namespace Go.Rk
open Go Go.RowKit
def locB (t : Nd) : Bool := textB' t && formB t
def permF (t : Nd) : Bool := para (fun t l => locB t && l.all id) t
theorem permF_eq (t : Nd) : permF t = (locB t && t.kids.all permF) := by
  rw [permF, para_eq, List.all_map]; rfl
def maxL (l : List Nat) : Nat := l.foldl max 0
def depthN (t : Nd) : Nat := para (fun _ l => maxL l + 1) t
theorem depthN_eq (t : Nd) : depthN t = maxL (t.kids.map depthN) + 1 := para_eq _ t
theorem foldl_max_le (l : List Nat) (a d : Nat) : l.foldl max a ≤ d ↔ a ≤ d ∧ ∀ x ∈ l, x ≤ d := by
  induction l generalizing a with
  | nil => simp
  | cons x xs ih => simp only [List.foldl_cons, ih, List.forall_mem_cons, Nat.max_le, and_assoc]
theorem maxL_le (l : List Nat) (d : Nat) : maxL l ≤ d ↔ ∀ x ∈ l, x ≤ d := by
  rw [maxL, foldl_max_le]; exact ⟨fun h => h.2, fun h => ⟨Nat.zero_le _, h⟩⟩
theorem depthN_le (t : Nd) (d : Nat) : depthN t ≤ d ↔ 0 < d ∧ ∀ k ∈ t.kids, depthN k ≤ d - 1 := by
  rw [depthN_eq]
  constructor
  · intro h
    refine ⟨by omega, fun k hk => ?_⟩
    have := (maxL_le (t.kids.map depthN) (d - 1)).1 (by omega)
    exact this _ (List.mem_map_of_mem hk)
  · rintro ⟨h0, h⟩
    have := (maxL_le (t.kids.map depthN) (d - 1)).2 (fun x hx => by obtain ⟨k, hk, rfl⟩ := List.mem_map.1 hx; exact h k hk)
    omega
theorem depthN_pos (t : Nd) : 1 ≤ depthN t := by rw [depthN_eq]; omega
def permB (d : Nat) (t : Nd) : Bool := permF t && decide (depthN t ≤ d)
theorem permB_zero (t : Nd) : permB 0 t = false := by
  have := depthN_pos t
  rw [permB, decide_eq_false (by omega), Bool.and_false]
theorem permB_eq {d : Nat} (h : 0 < d) (t : Nd) : permB d t = ((textB' t && formB t) && t.kids.all (permB (d - 1))) := by
  rw [Bool.eq_iff_iff, permB, permF_eq, locB]
  simp only [Bool.and_eq_true, decide_eq_true_eq, depthN_le t d, List.all_eq_true, permB]
  constructor
  · rintro ⟨⟨h1, h2⟩, _, h3⟩; exact ⟨h1, fun k hk => ⟨h2 k hk, h3 k hk⟩⟩
  · rintro ⟨h1, h2⟩; exact ⟨⟨h1, fun k hk => (h2 k hk).1⟩, h, fun k hk => (h2 k hk).2⟩
theorem kidAt_len {t : Nd} {n : Nat} (h : count t ≤ n) (i : Nat) : (kidAt t i).kids.length ≤ n := by
  by_cases hi : i < t.kids.length
  · rw [kidAt_eq hi]
    have := count_mem (List.getElem_mem hi)
    have := kids_le t.kids[i]
    omega
  · have : kidAt t i = nd0 := by simp only [kidAt, List.getD_eq_getElem?_getD]; rw [List.getElem?_eq_none (by omega)]; rfl
    rw [this]; exact Nat.zero_le _
theorem permitted_ok : ∀ (t : Nd) (v : Value) (D : Nat → Prop) (d : Nat) (w : World), Laid w → 4 ≤ w.heap.size → Kd w D t.kids v → count t ≤ 1000000 → d ≤ 1000000 → Ret PP fn_syntax_permitted #[ndV t v, .int .i64 (d : Int)] w fun r w' => r = .bool (permB d t) ∧ G w w' := by
  refine Nd.ind fun t ih v D d w hL hb3 hk hcn hd => ?_
  have hk0 := hk
  obtain ⟨p, c, rfl, hcap, hks⟩ := hk
  have g := G.refl w
  have hlen := kids_le t
  refine ret_of_sc (m := 32) func_syntax_permitted rfl rfl [(0, True, _), (1, True, _)] (sub_cons rfl (sub_cons rfl (sub_nil _))) ?_
  refine sc_seq fun K1 hK1 => ?_
  refine sc_text [1, 3] ?_
  refine sr_box rfl (ev_t rfl) rfl ?_
  intro b2 w2 N2
  have l2 := N2.ge g
  have g := g.trans (N2.g)
  have B2 := N2.blk
  refine sr_pu rfl (fun _ => rd_assign ev_c) ?_
  refine sr_sub [(1, _, _), (2, _, _), (4, _, _)] (sub_cons rfl (sub_cons rfl (sub_cons rfl (sub_nil _)))) ?_
  refine sr_nil (hK1 _ _ ?_)
  refine sc_seq fun K2 hK2 => ?_
  refine sc_seq fun K3 hK3 => ?_
  refine sc_text [3, 3, 3, 0, 1, 3, 3, 3, 0, 1, 3, 3] ?_
  refine sr_pu rfl (fun _ => rd_move (ev_t rfl)) ?_
  refine sr_pu rfl (fun _ => rd_eq (ev_t rfl) ev_c) ?_
  refine sr_pu rfl (fun _ => rd_move (ev_t rfl)) ?_
  refine sr_rdg rfl rfl rfl (rd_loads agg_api_Node (ev_t rfl) rfl (fun _ => B2.row)) ?_
  refine sr_pureg rfl rfl rfl (fun _ => (rc_call go_syntax_text ev_f (args_cons (ev_u rfl id) (args_nil)) rfl)) (fun hc => stext_ok t _ _ _ (hL.grow g) (by have := g.size; omega)) (fun w11 g11 => ?_)
  have g := g.trans (g11)
  replace B2 := B2.grow (g11)
  refine sr_pug rfl rfl rfl (fun _ => rd_not (ev_u rfl id)) ?_
  refine sr_pu rfl (fun _ => rd_pick_or (ev_t rfl) (ev_u rfl id)) ?_
  refine sr_pu rfl (fun _ => rd_move (ev_t rfl)) ?_
  refine sr_rdg rfl rfl rfl (rd_loads agg_api_Node (ev_t rfl) rfl (fun _ => B2.row)) ?_
  refine sr_pureg rfl rfl rfl (fun _ => (rc_call go_syntax_form ev_f (args_cons (ev_u rfl id) (args_nil)) rfl)) (fun hc => form_ok t _ _ D _ (hk0.grow g) (by omega) (fun i => kidAt_len hcn i)) (fun w16 g16 => ?_)
  have g := g.trans (g16)
  replace B2 := B2.grow (g16)
  refine sr_pug rfl rfl rfl (fun _ => rd_not (ev_u rfl id)) ?_
  refine sr_pu rfl (fun _ => rd_pick_or (ev_t rfl) (ev_u rfl id)) ?_
  refine sr_sub [(1, _, _), (2, _, _), (4, _, _), (18, _, _)] (sub_cons rfl (sub_cons rfl (sub_cons rfl (sub_cons rfl (sub_nil _))))) ?_
  refine sr_nil (hK3 _ _ ?_)
  refine sc_cond (ev_t rfl) (fun h1 => ?_) (fun h1 => ?_)
  · have hN : permB d t = false := by
      rw [Bool.or_eq_true, Bool.or_eq_true, decide_eq_true_eq, Bool.not_eq_true', Bool.not_eq_true'] at h1
      by_cases h0 : d = 0
      · rw [h0]; exact permB_zero t
      · rw [permB_eq (by omega)]
        rcases h1 with (h1 | h1) | h1
        · omega
        · rw [h1]; rfl
        · rw [h1, Bool.and_false]; rfl
    refine sc_seq fun K4 hK4 => ?_
    refine sc_text [3] ?_
    refine sr_pu rfl (fun _ => rd_assign ev_c) ?_
    refine sr_sub [(1, _, _), (2, _, _), (4, _, _)] (sub_cons rfl (sub_cons rfl (sub_cons rfl (sub_nil _)))) ?_
    refine sr_nil (hK4 _ _ ?_)
    refine sc_ret (t_ret1 rfl rfl ?_)
    rw [hN]; exact ⟨rfl, g⟩
  have hpos : 0 < d := by
    rcases Nat.eq_zero_or_pos d with h0 | h0
    · rw [h0] at h1; exact absurd h1 (by simp)
    · exact h0
  have hloc : (textB' t && formB t) = true := by
    rw [Bool.or_eq_false_iff, Bool.or_eq_false_iff, Bool.not_eq_false', Bool.not_eq_false'] at h1
    rw [h1.1.2, h1.2]; rfl
  have hN := permB_eq hpos t
  rw [hloc, Bool.true_and] at hN
  refine sc_skip (hK2 _ _ ?_)
  refine sc_sub [(1, _, _), (2, _, _), (4, _, _)] (sub_cons rfl (sub_cons rfl (sub_cons rfl (sub_nil _)))) ?_
  refine sc_seq fun K5 hK5 => ?_
  refine sc_seq fun K6 hK6 => ?_
  refine sc_text [3, 0, 3, 3] ?_
  refine sr_pu rfl (fun _ => rd_field fo_api_Node_4 (ev_t rfl)) ?_
  refine sr_rd rfl (rd_load one_sl_api_Node (ev_t rfl) (fun _ => B2.at_ rfl)) ?_
  refine sr_pu rfl (fun _ => rd_len el_sl_api_Node (ev_t rfl)) ?_
  refine sr_pu rfl (fun _ => rd_move ev_c) ?_
  refine sr_sub [(1, _, _), (4, _, _), (20, _, _), (21, _, _), (22, _, _)] (sub_cons rfl (sub_cons rfl (sub_cons rfl (sub_cons rfl (sub_cons rfl (sub_nil _)))))) ?_
  refine sr_nil (hK6 _ _ ?_)
  refine sc_block ?_
  refine sc_loop2 (fun (i : Nat) u1 => (i ≤ t.kids.length ∧ ∀ j, (h : j < t.kids.length) → j < i → permB (d - 1) t.kids[j] = true) ∧ G w16 u1) [(1, True, _), (20, True, _), (21, True, _)] (fun (i : Nat) => [(22, True, .int .i64 i)]) (fun (i : Nat) => t.kids.length - i) (0) ⟨⟨Nat.zero_le _, fun j _ hj => absurd hj (Nat.not_lt_zero j)⟩, G.refl _⟩ (sub_cons rfl (sub_cons rfl (sub_cons rfl (sub_cons rfl (sub_nil _))))) ?_
  rintro i u1 ⟨hI1, gl1⟩
  have g := g.trans gl1
  replace B2 := B2.grow (gl1)
  refine sc_seq fun K7 hK7 => ?_
  refine sc_text [3] ?_
  refine sr_pu rfl (fun _ => rd_lt (ev_t rfl) (ev_t rfl)) ?_
  refine sr_nil (hK7 _ _ ?_)
  refine sc_sub [(1, _, _), (20, _, _), (21, _, _), (22, _, _), (23, _, _)] (sub_cons rfl (sub_cons rfl (sub_cons rfl (sub_cons rfl (sub_cons rfl (sub_nil _)))))) ?_
  refine sc_seq fun K8 hK8 => ?_
  refine sc_cond (ev_t rfl) (fun h2 => ?_) (fun h2 => ?_)
  · replace h2 : i < t.kids.length := by simp only [decide_eq_true_eq] at h2; omega
    obtain ⟨b, o, rfl, hD, xs, hR, hX⟩ := hks (by omega)
    obtain ⟨p', c', hcell, hkid⟩ := kd_at hR hX h2
    have hck := count_kid h2
    refine sc_skip (hK8 _ _ ?_)
    refine sc_sub [(1, _, _), (20, _, _), (21, _, _), (22, _, _)] (sub_cons rfl (sub_cons rfl (sub_cons rfl (sub_cons rfl (sub_nil _))))) ?_
    refine sc_seq fun K9 hK9 => ?_
    refine sc_block ?_
    refine sc_seq fun K10 hK10 => ?_
    refine sc_text [3, 0, 1, 2] ?_
    refine sr_pu rfl (fun _ => rd_idx el_sl_api_Node (ev_t rfl) (ev_t rfl) (fun _ => by omega)) ?_
    refine sr_rd rfl (rd_loads agg_api_Node (ev_t rfl) rfl (fun _ => hcell.grow g)) ?_
    refine sr_alloc rfl ze_api_Node rfl ?_
    intro b6 w6 N6
    have x6_2 := N6.ne B2
    have l6 := N6.ge g
    try have l6_gl1 := N6.ge gl1
    have g := g.trans (N6.g)
    try have gl1 := gl1.trans (N6.g)
    replace B2 := B2.grow (N6.g)
    have B6 := N6.blk
    refine sr_store_all rfl sz_api_Node (ev_t rfl) (ev_t rfl) rfl rfl B6 rfl rfl ?_
    intro wS1 hgS1 hzS1
    clear B6
    intro B6
    replace B2 := B2.keep hgS1 (by intro h; injection h with h; first | exact x6_2 h.symm | exact x2_6 h | omega)
    have g := g_only g hgS1 (by intro k hk; injection hk with hk; omega)
    first | replace gl1 := g_only gl1 hgS1 (by intro k hk; injection hk with hk; omega) | clear gl1 | skip
    refine sr_sub [(1, _, _), (6, _, _), (20, _, _), (21, _, _), (22, _, _)] (sub_cons rfl (sub_cons rfl (sub_cons rfl (sub_cons rfl (sub_cons rfl (sub_nil _)))))) ?_
    refine sr_nil (hK10 _ _ ?_)
    refine sc_seq fun K11 hK11 => ?_
    refine sc_text [0, 3, 3, 1, 3] ?_
    refine sr_rd rfl (rd_loads agg_api_Node (ev_t rfl) rfl (fun _ => B6.row)) ?_
    refine sr_pu rfl (fun _ => rd_move (ev_t rfl)) ?_
    refine sr_pu rfl (fun _ => rd_subr (r := ((d - 1 : Nat) : Int)) (ev_t rfl) ev_c (fun hc => (by rw [i64_id ⟨by omega, by omega⟩]; omega))) ?_
    refine sr_pure rfl (rc_call go_syntax_permitted ev_f (args_cons (ev_t rfl) (args_cons (ev_t rfl) (args_nil))) rfl) (ih _ (List.getElem_mem h2) _ _ (d - 1) _ (hL.grow g) (by have := g.size; omega) (hkid.grow g) (by omega) (by omega)) (fun w29 g29 => ?_)
    have g := g.trans (g29)
    try have gl1 := gl1.trans (g29)
    replace B2 := B2.grow (g29)
    replace B6 := B6.grow (g29)
    refine sr_pu rfl (fun _ => rd_not (ev_t rfl)) ?_
    refine sr_sub [(1, _, _), (20, _, _), (21, _, _), (22, _, _), (30, _, _)] (sub_cons rfl (sub_cons rfl (sub_cons rfl (sub_cons rfl (sub_cons rfl (sub_nil _)))))) ?_
    refine sr_nil (hK11 _ _ ?_)
    refine sc_cond (ev_t rfl) (fun h3 => ?_) (fun h3 => ?_)
    · (try simp only [bsimp] at h3)
      refine sc_seq fun K12 hK12 => ?_
      refine sc_text [3] ?_
      refine sr_pu rfl (fun _ => rd_assign ev_c) ?_
      refine sr_sub [(1, _, _), (4, _, _), (20, _, _), (21, _, _), (22, _, _)] (sub_cons rfl (sub_cons rfl (sub_cons rfl (sub_cons rfl (sub_cons rfl (sub_nil _)))))) ?_
      refine sr_nil (hK12 _ _ ?_)
      refine sc_ret (t_ret1 rfl rfl ?_)
      refine ⟨congrArg Value.bool ?_, g⟩
      rw [eq_comm, hN, List.all_eq_false]
      exact ⟨_, List.getElem_mem h2, by simpa using h3⟩
    (try simp only [bsimp] at h3)
    refine sc_skip (hK9 _ _ ?_)
    refine sc_sub [(1, _, _), (20, _, _), (21, _, _), (22, _, _)] (sub_cons rfl (sub_cons rfl (sub_cons rfl (sub_cons rfl (sub_nil _))))) ?_
    refine sc_text [3, 3] ?_
    refine sr_pu rfl (fun _ => rd_add (ev_t rfl) ev_c (fun _ => by omega)) ?_
    refine sr_pu rfl (fun _ => rd_move (ev_t rfl)) ?_
    refine sr_sub [(22, _, _), (1, _, _), (20, _, _), (21, _, _)] (sub_cons rfl (sub_cons rfl (sub_cons rfl (sub_cons rfl (sub_nil _))))) ?_
    refine sr_nil (fun a ha => ?_)
    refine ⟨i + 1, ha, ⟨⟨h2, fun j h hj => ?_⟩, gl1⟩, by omega⟩
    by_cases e : j = i
    · subst e; simpa using h3
    · exact hI1.2 j h (by omega)
  (try simp only [bsimp] at h2)
  refine sc_exit rfl (hK5 _ _ ?_)
  refine sc_sub [] (sub_nil _) ?_
  refine sc_seq fun K13 hK13 => ?_
  refine sc_text [3] ?_
  refine sr_pu rfl (fun _ => rd_assign ev_c) ?_
  refine sr_nil (hK13 _ _ ?_)
  refine sc_ret (t_ret1 rfl rfl ?_)
  refine ⟨congrArg Value.bool ?_, g⟩
  rw [eq_comm, hN, List.all_eq_true]
  intro x hx
  obtain ⟨j, hj, rfl⟩ := List.getElem_of_mem hx
  exact hI1.2 j hj (by simp only [decide_eq_false_iff_not] at h2; omega)
def validB (t : Nd) : Bool := decide (t.kind = 1) && permB 50 t
theorem svalid_ok (t : Nd) (v : Value) (D : Nat → Prop) (w : World) (hL : Laid w) (hb3 : 4 ≤ w.heap.size) (hk : Kd w D t.kids v) (hcn : count t ≤ 1000000) : Ret PP fn_syntax_Valid #[ndV t v] w fun r w' => r = .bool (validB t) ∧ G w w' := by
  have g := G.refl w
  refine ret_of_sc (m := 10) func_syntax_Valid rfl rfl [(0, True, _)] (sub_cons rfl (sub_nil _)) ?_
  refine sc_seq fun K1 hK1 => ?_
  refine sc_text [1, 3] ?_
  refine sr_box rfl (ev_t rfl) rfl ?_
  intro b1 w1 N1
  have l1 := N1.ge g
  have g := g.trans (N1.g)
  have B1 := N1.blk
  refine sr_pu rfl (fun _ => rd_assign ev_c) ?_
  refine sr_sub [(1, _, _), (2, _, _)] (sub_cons rfl (sub_cons rfl (sub_nil _))) ?_
  refine sr_nil (hK1 _ _ ?_)
  refine sc_seq fun K2 hK2 => ?_
  refine sc_text [3, 0, 3, 3, 0, 1, 3, 3] ?_
  refine sr_pu rfl (fun _ => rd_field fo_api_Node_0 (ev_t rfl)) ?_
  refine sr_rd rfl (rd_load one_int (ev_t rfl) (fun _ => B1.at_ rfl)) ?_
  refine sr_pu rfl (fun _ => rd_eq (ev_t rfl) ev_c) ?_
  refine sr_pu rfl (fun _ => rd_move (ev_t rfl)) ?_
  refine sr_rdg rfl rfl rfl (rd_loads agg_api_Node (ev_t rfl) rfl (fun _ => B1.row)) ?_
  refine sr_pureg rfl rfl rfl (fun _ => (rc_call go_syntax_permitted ev_f (args_cons (ev_u rfl id) (args_cons ev_c (args_nil))) rfl)) (fun hc => permitted_ok t _ D 50 _ (hL.grow g) (by have := g.size; omega) (hk.grow g) hcn (by decide)) (fun w8 g8 => ?_)
  have g := g.trans (g8)
  replace B1 := B1.grow (g8)
  refine sr_pu rfl (fun _ => rd_pick_and (ev_t rfl) (ev_u rfl id)) ?_
  refine sr_pu rfl (fun _ => rd_assign (ev_t rfl)) ?_
  refine sr_sub [(2, _, _)] (sub_cons rfl (sub_nil _)) ?_
  refine sr_nil (hK2 _ _ ?_)
  refine sc_ret (t_ret1 rfl rfl ?_)
  exact ⟨rfl, g⟩
end Go.Rk
namespace Go.Rk
open Go Go.RowKit
def exprB (t : Nd) : Bool := expK t.kind && permF t
def blockB (t : Nd) : Bool := decide (t.kind = 10) && permF t
def stmtB (t : Nd) : Bool := stK t.kind && permF t
def ifB (t : Nd) : Bool := decide (t.kind = 18) && permF t
def varB (t : Nd) : Bool := decide (t.kind = 6) && permF t
def commF (t : Nd) : Bool := commB t && permF t
def plainB (t : Nd) : Bool := decide (t.text = [])
def noneB (t : Nd) : Bool := (decide (t.kind = 9) && decide (t.text = [])) && lenK t 0
def kindB (t : Nd) (k : Int) : Bool := decide (t.kind = k) && exprB t
theorem len_two {α : Type} {l : List α} (h : l.length = 2) : ∃ a b, l = [a, b] := by
  match l, h with | [a, b], _ => exact ⟨a, b, rfl⟩
theorem len_three {α : Type} {l : List α} (h : l.length = 3) : ∃ a b c, l = [a, b, c] := by
  match l, h with | [a, b, c], _ => exact ⟨a, b, c, rfl⟩
theorem memK_one (a k : Int) : memK [a] k = decide (k = a) := by simp [memK]
theorem lenK_f {t : Nd} (n : Nat) (h : t.kids.length ≠ n) : lenK t (n : Int) = false := by rw [lenK, decide_eq_false]; omega
theorem kidsB_f {t : Nd} {qs : List (Int → Bool)} (h : t.kids.length ≠ qs.length) : kidsB t qs = false := by rw [kidsB, decide_eq_false h, Bool.false_and]
theorem kids_0 {t : Nd} {f : Nd → Bool} : (lenK t 0 && t.kids.all f) = lenK t 0 := by
  by_cases h : t.kids.length = 0
  · rw [List.length_eq_zero_iff.1 h, List.all_nil, Bool.and_true]
  · rw [show lenK t 0 = false from lenK_f 0 h]; rfl
theorem kids_1 {t : Nd} {q : Int → Bool} : (kidsB t [q] && t.kids.all permF) = (lenK t 1 && (q (kidAt t 0).kind && permF (kidAt t 0))) := by
  by_cases h : t.kids.length = 1
  · obtain ⟨a, ha⟩ := List.length_eq_one_iff.1 h
    simp [lenK, kidsB, kidAt, ha, List.range_succ]
  · rw [show lenK t 1 = false from lenK_f 1 h, kidsB_f h]; rfl
theorem kids_2 {t : Nd} {q q2 : Int → Bool} : (kidsB t [q, q2] && t.kids.all permF) = (lenK t 2 && ((q (kidAt t 0).kind && permF (kidAt t 0)) && (q2 (kidAt t 1).kind && permF (kidAt t 1)))) := by
  by_cases h : t.kids.length = 2
  · obtain ⟨a, b, ha⟩ := len_two h
    simp [lenK, kidsB, kidAt, ha, List.range_succ]; ac_rfl
  · rw [show lenK t 2 = false from lenK_f 2 h, kidsB_f h]; rfl
theorem kids_3 {t : Nd} {q q2 q3 : Int → Bool} : (kidsB t [q, q2, q3] && t.kids.all permF) = (lenK t 3 && (((q (kidAt t 0).kind && permF (kidAt t 0)) && (q2 (kidAt t 1).kind && permF (kidAt t 1))) && (q3 (kidAt t 2).kind && permF (kidAt t 2)))) := by
  by_cases h : t.kids.length = 3
  · obtain ⟨a, b, c, ha⟩ := len_three h
    simp [lenK, kidsB, kidAt, ha, List.range_succ]; ac_rfl
  · rw [show lenK t 3 = false from lenK_f 3 h, kidsB_f h]; rfl
theorem all_1 {t : Nd} {f : Nd → Bool} : (lenK t 1 && t.kids.all f) = (lenK t 1 && f (kidAt t 0)) := by
  by_cases h : t.kids.length = 1
  · obtain ⟨a, ha⟩ := List.length_eq_one_iff.1 h
    simp [lenK, kidAt, ha]
  · rw [show lenK t 1 = false from lenK_f 1 h]; rfl
theorem all_2 {t : Nd} {f : Nd → Bool} : (lenK t 2 && t.kids.all f) = (lenK t 2 && (f (kidAt t 0) && f (kidAt t 1))) := by
  by_cases h : t.kids.length = 2
  · obtain ⟨a, b, ha⟩ := len_two h
    simp [lenK, kidAt, ha]
  · rw [show lenK t 2 = false from lenK_f 2 h]; rfl
theorem every_all {t : Nd} {q : Int → Bool} : (everyB t q && t.kids.all permF) = t.kids.all fun k => q k.kind && permF k := by
  rw [everyB, Bool.eq_iff_iff]
  simp only [Bool.and_eq_true, List.all_eq_true]
  exact ⟨fun h k hk => ⟨h.1 k hk, h.2 k hk⟩, fun h => ⟨fun k hk => (h k hk).1, fun k hk => (h k hk).2⟩⟩
theorem exp_all {t : Nd} : (everyB t expK && t.kids.all permF) = t.kids.all exprB := every_all
def refExpr (t : Nd) : Bool :=
  bif decide (t.kind = 24) then (plainB t && lenK t 0) && decide (0 ≤ t.num)
  else bif decide (t.kind = 25) then (plainB t && lenK t 0) && (decide (t.num = 0) || decide (t.num = 1))
  else bif decide (t.kind = 26) then plainB t && lenK t 0
  else bif anyK [27, 34] t.kind then nameB t.text && lenK t 0
  else bif decide (t.kind = 28) then (nameB t.text && lenK t 1) && exprB (kidAt t 0)
  else bif decide (t.kind = 29) then (plainB t && lenK t 2) && t.kids.all exprB
  else bif decide (t.kind = 30) then (plainB t && decide (1 ≤ (t.kids.length : Int))) && t.kids.all exprB
  else bif decide (t.kind = 31) then ((decide (t.text = [45]) || decide (t.text = [33])) && lenK t 1) && exprB (kidAt t 0)
  else bif decide (t.kind = 32) then (anyS binOps t.text && lenK t 2) && t.kids.all exprB
  else bif anyK [33, 35, 36, 37] t.kind then (plainB t && lenK t 1) && exprB (kidAt t 0)
  else bif decide (t.kind = 38) then (plainB t && lenK t 1) && blockB (kidAt t 0)
  else false
theorem fl0 {t : Nd} {X : Bool} : (X && lenK t 0) = ((X && lenK t 0) && t.kids.all permF) := by rw [Bool.and_assoc, kids_0]
theorem fl0' {t : Nd} {X Y : Bool} : ((X && lenK t 0) && Y) = ((X && (lenK t 0 && Y)) && t.kids.all permF) := by
  rw [show ((X && (lenK t 0 && Y)) && t.kids.all permF) = ((X && Y) && (lenK t 0 && t.kids.all permF)) by simp only [Bool.and_assoc, Bool.and_comm, Bool.and_left_comm], kids_0]
  simp only [Bool.and_assoc, Bool.and_comm, Bool.and_left_comm]
theorem fl1 {t : Nd} {X : Bool} {q : Int → Bool} : ((X && lenK t 1) && (q (kidAt t 0).kind && permF (kidAt t 0))) = ((X && kidsB t [q]) && t.kids.all permF) := by rw [Bool.and_assoc, Bool.and_assoc, kids_1]
theorem fl2 {t : Nd} {X : Bool} : ((X && lenK t 2) && t.kids.all exprB) = ((X && kidsB t [expK, expK]) && t.kids.all permF) := by rw [Bool.and_assoc, Bool.and_assoc, kids_2, all_2]; rfl
theorem flv {t : Nd} {X Y Z : Bool} (h : Y = Z) : ((X && Y) && t.kids.all exprB) = ((X && (Z && everyB t expK)) && t.kids.all permF) := by rw [Bool.and_assoc, Bool.and_assoc, Bool.and_assoc, exp_all, h]
theorem refExpr_eq (t : Nd) : refExpr t = exprB t := by
  rw [exprB, permF_eq, locB]
  unfold refExpr textB' formB
  by_cases h : t.kind = 24
  · rw [h]; exact fl0'
  by_cases h1 : t.kind = 25
  · rw [h1]; exact fl0'
  by_cases h2 : t.kind = 26
  · rw [h2]; exact fl0
  by_cases h3 : t.kind = 27
  · rw [h3]; exact fl0
  by_cases h4 : t.kind = 34
  · rw [h4]; exact fl0
  by_cases h5 : t.kind = 28
  · rw [h5]; exact fl1
  by_cases h6 : t.kind = 29
  · rw [h6]; exact fl2
  by_cases h7 : t.kind = 30
  · rw [h7]; exact flv (by rw [decide_eq_decide]; omega)
  by_cases h8 : t.kind = 31
  · rw [h8]; exact fl1
  by_cases h9 : t.kind = 32
  · rw [h9]; exact fl2
  by_cases h10 : t.kind = 33
  · rw [h10]; exact fl1
  by_cases h11 : t.kind = 35
  · rw [h11]; exact fl1
  by_cases h12 : t.kind = 36
  · rw [h12]; exact fl1
  by_cases h13 : t.kind = 37
  · rw [h13]; exact fl1
  by_cases h14 : t.kind = 38
  · rw [h14]; refine Eq.trans ?_ (fl1 (X := plainB t) (q := memK [10])); rw [memK_one]; rfl
  simp only [expK, anyK, decide_eq_false h, decide_eq_false h1, decide_eq_false h2, decide_eq_false h3, decide_eq_false h4, decide_eq_false h5, decide_eq_false h6, decide_eq_false h7, decide_eq_false h8, decide_eq_false h9, decide_eq_false h10, decide_eq_false h11, decide_eq_false h12, decide_eq_false h13, decide_eq_false h14, Bool.or_false, cond_false, Bool.false_and]
def refBlock (t : Nd) : Bool := bif !decide (t.kind = 10) || !plainB t then false else t.kids.all stmtB
def refIf (t : Nd) : Bool := bif (!decide (t.kind = 18) || !plainB t) || !lenK t 3 then false else (exprB (kidAt t 0) && blockB (kidAt t 1)) && ((blockB (kidAt t 2) || ifB (kidAt t 2)) || noneB (kidAt t 2))
def refVar (t : Nd) : Bool := (((decide (t.kind = 6) && nameB t.text) && lenK t 2) && isTypeB (kidAt t 0)) && (noneB (kidAt t 1) || exprB (kidAt t 1))
theorem or_two (a b p : Bool) : ((a && p) || (b && p)) = ((b || a) && p) := by cases a <;> cases b <;> cases p <;> rfl
theorem or_three (a b c p : Bool) : (((a && p) || (b && p)) || (c && p)) = (((a || b) || c) && p) := by cases a <;> cases b <;> cases c <;> cases p <;> rfl
theorem not_if2 (a b c : Bool) : (bif !a || !b then false else c) = ((a && b) && c) := by cases a <;> cases b <;> rfl
theorem not_if3 (a b c d : Bool) : (bif (!a || !b) || !c then false else d) = (((a && b) && c) && d) := by cases a <;> cases b <;> cases c <;> rfl
theorem noneB_eq (t : Nd) : noneB t = (decide (t.kind = 9) && permF t) := by
  rw [noneB]
  by_cases h : t.kind = 9
  · rw [permF_eq, locB, textB', formB, h, Bool.and_assoc]; exact congrArg (true && ·) fl0
  · rw [decide_eq_false h]; rfl
theorem isTypeB_eq (t : Nd) : isTypeB t = (typK t.kind && permF t) := by
  rw [permF_eq, locB]
  unfold isTypeB textB' formB
  by_cases h : t.kind = 8
  · rw [h]; exact fl0
  by_cases h1 : t.kind = 7
  · rw [h1]; exact fl0
  rw [decide_eq_false h, decide_eq_false h1, typK, anyK, anyK, decide_eq_false h, decide_eq_false h1]; rfl
theorem refBlock_eq (t : Nd) : refBlock t = blockB t := by
  rw [refBlock, blockB, not_if2]
  by_cases h : t.kind = 10
  · rw [permF_eq, locB, textB', formB, h, Bool.and_assoc]; exact congrArg (true && ·) (by
      refine Eq.trans ?_ (Bool.and_assoc (plainB t) (everyB t stK) _).symm
      rw [every_all]; rfl)
  · rw [decide_eq_false h]; rfl
theorem refIf_eq (t : Nd) : refIf t = ifB t := by
  rw [refIf, not_if3, show ifB t = (decide (t.kind = 18) && permF t) from rfl]
  by_cases h : t.kind = 18
  · rw [permF_eq, locB, textB', formB, h, Bool.and_assoc, Bool.and_assoc]; exact congrArg (true && ·) (by
      refine Eq.trans ?_ (Bool.and_assoc (plainB t) (kidsB t [expK, memK [10], memK [10, 18, 9]]) _).symm
      rw [kids_3, memK_one, noneB_eq, show memK [10, 18, 9] (kidAt t 2).kind = ((decide ((kidAt t 2).kind = 10) || decide ((kidAt t 2).kind = 18)) || decide ((kidAt t 2).kind = 9)) by simp [memK, Bool.or_assoc], ← or_three]; rfl)
  · rw [decide_eq_false h]; rfl
theorem refVar_eq (t : Nd) : refVar t = varB t := by
  rw [refVar, varB]
  by_cases h : t.kind = 6
  · rw [permF_eq, locB, textB', formB, h, Bool.and_assoc, Bool.and_assoc, Bool.and_assoc]; exact congrArg (true && ·) (by
      refine Eq.trans ?_ (Bool.and_assoc (nameB t.text) (kidsB t [typK, fun k => expK k || memK [9] k]) _).symm
      rw [kids_2, memK_one, noneB_eq, isTypeB_eq, show exprB (kidAt t 1) = (expK (kidAt t 1).kind && permF (kidAt t 1)) from rfl, or_two])
  · rw [decide_eq_false h]; rfl
def refComm (t : Nd) : Bool :=
  bif anyK [16, 9] t.kind then stmtB t || noneB t
  else bif decide (t.kind = 13) then stmtB t && decide ((kidAt t 0).kind = 33)
  else bif decide (t.kind = 12) then stmtB t && decide ((kidAt t 1).kind = 33)
  else bif decide (t.kind = 11) then stmtB t && decide ((kidAt t 0).kind = 33)
  else false
theorem perm_len1 {t : Nd} (h : t.kind = 13 ∨ t.kind = 11) (hp : permF t = true) : t.kids.length = 1 := by
  rw [permF_eq, locB, Bool.and_eq_true, Bool.and_eq_true] at hp
  have hf := hp.1.2
  rcases h with h | h <;> rw [formB, h] at hf
  · have : kidsB t [memK [30, 33]] = true := hf
    rw [kidsB, Bool.and_eq_true, decide_eq_true_eq] at this; exact this.1
  · have : kidsB t [expK] = true := hf
    rw [kidsB, Bool.and_eq_true, decide_eq_true_eq] at this; exact this.1
theorem perm_len2 {t : Nd} (h : t.kind = 12 ∨ t.kind = 6) (hp : permF t = true) : t.kids.length = 2 := by
  rw [permF_eq, locB, Bool.and_eq_true, Bool.and_eq_true] at hp
  have hf := hp.1.2
  rcases h with h | h <;> rw [formB, h] at hf
  · have : kidsB t [expK, expK] = true := hf
    rw [kidsB, Bool.and_eq_true, decide_eq_true_eq] at this; exact this.1
  · have : kidsB t [typK, fun k => expK k || memK [9] k] = true := hf
    rw [kidsB, Bool.and_eq_true, decide_eq_true_eq] at this; exact this.1
theorem and_mid {a b c : Bool} (h : a = true → b = true) : (a && c) = ((b && c) && a) := by revert h; cases a <;> cases b <;> cases c <;> simp
theorem refComm_eq (t : Nd) : refComm t = commF t := by
  rw [refComm, commF, noneB_eq, stmtB]
  unfold commB
  by_cases h : t.kind = 16
  · rw [h]; exact (show (permF t || false) = _ from Bool.or_false _)
  by_cases h1 : t.kind = 9
  · rw [h1]; rfl
  by_cases h2 : t.kind = 13
  · have hl : permF t = true → decide (((t.kids.length : Int) - 1) = 0) = true := fun hp => by rw [perm_len1 (.inl h2) hp]; rfl
    rw [h2]; exact (show _ = ((decide (((t.kids.length : Int) - 1) = 0) && decide ((kidAt t 0).kind = 33)) && permF t) from and_mid hl)
  by_cases h3 : t.kind = 12
  · have hl : permF t = true → decide (((t.kids.length : Int) - 1) = 1) = true := fun hp => by rw [perm_len2 (.inl h3) hp]; rfl
    rw [h3]; exact (show _ = ((decide (((t.kids.length : Int) - 1) = 1) && decide ((kidAt t 1).kind = 33)) && permF t) from and_mid hl)
  by_cases h4 : t.kind = 11
  · have hl : permF t = true → decide (((t.kids.length : Int) - 1) = 0) = true := fun hp => by rw [perm_len1 (.inr h4) hp]; rfl
    rw [h4]; exact (show _ = ((decide (((t.kids.length : Int) - 1) = 0) && decide ((kidAt t 0).kind = 33)) && permF t) from and_mid hl)
  simp only [anyK, decide_eq_false h, decide_eq_false h1, decide_eq_false h2, decide_eq_false h3, decide_eq_false h4, Bool.or_false, cond_false, Bool.false_and]
def caseB (t : Nd) : Bool := (((decide (t.kind = 23) && plainB t) && lenK t 2) && commF (kidAt t 0)) && blockB (kidAt t 1)
theorem caseB_eq (t : Nd) : caseB t = (decide (t.kind = 23) && permF t) := by
  rw [caseB]
  by_cases h : t.kind = 23
  · rw [permF_eq, locB, textB', formB, h]
    refine Eq.trans (b := ((plainB t && ((lenK t 2 && commB (kidAt t 0)) && memK [10] (kidAt t 1).kind)) && t.kids.all permF)) ?_ rfl
    rw [memK_one, show ((plainB t && ((lenK t 2 && commB (kidAt t 0)) && decide ((kidAt t 1).kind = 10))) && t.kids.all permF) = ((plainB t && (commB (kidAt t 0) && decide ((kidAt t 1).kind = 10))) && (lenK t 2 && t.kids.all permF)) by ac_rfl, all_2, commF, blockB]
    show (((plainB t && lenK t 2) && _) && _) = _
    ac_rfl
  · rw [decide_eq_false h]; rfl
def refSelect (t : Nd) : Bool := t.kids.all caseB && plainB t
theorem refSelect_eq {t : Nd} (h : t.kind = 22) : refSelect t = permF t := by
  rw [permF_eq, locB, textB', formB, h]
  refine Eq.trans (b := ((plainB t && everyB t (memK [23])) && t.kids.all permF)) ?_ rfl
  rw [Bool.and_assoc, every_all, refSelect, Bool.and_comm]
  congr 2
  funext k
  rw [caseB_eq, memK_one]
def refStmt (t : Nd) : Bool :=
  bif decide (t.kind = 6) then varB t
  else bif decide (t.kind = 10) then blockB t
  else bif decide (t.kind = 18) then ifB t
  else bif decide (t.kind = 22) then permF t
  else bif decide (t.kind = 11) then (nameB t.text && lenK t 1) && exprB (kidAt t 0)
  else bif anyK [12, 16] t.kind then (plainB t && lenK t 2) && t.kids.all exprB
  else bif decide (t.kind = 13) then (plainB t && lenK t 1) && (kindB (kidAt t 0) 30 || kindB (kidAt t 0) 33)
  else bif anyK [14, 15] t.kind then (plainB t && lenK t 1) && kindB (kidAt t 0) 30
  else bif anyK [17, 21] t.kind then (plainB t && lenK t 1) && exprB (kidAt t 0)
  else bif decide (t.kind = 20) then (plainB t && decide ((t.kids.length : Int) ≤ 1)) && t.kids.all exprB
  else bif decide (t.kind = 19) then ((plainB t && lenK t 2) && (noneB (kidAt t 0) || exprB (kidAt t 0))) && blockB (kidAt t 1)
  else false
theorem kindB_30 (t : Nd) : kindB t 30 = (memK [30] t.kind && permF t) := by
  rw [kindB, memK_one, exprB]
  by_cases h : t.kind = 30
  · rw [h]; rfl
  · rw [decide_eq_false h]; rfl
theorem kindB_33 (t : Nd) : kindB t 33 = (decide (t.kind = 33) && permF t) := by
  rw [kindB, exprB]
  by_cases h : t.kind = 33
  · rw [h]; rfl
  · rw [decide_eq_false h]; rfl
theorem kindB_or (t : Nd) : (kindB t 30 || kindB t 33) = (memK [30, 33] t.kind && permF t) := by
  rw [kindB_30, kindB_33, or_two, memK_one]; congr 1; simp [memK, Bool.or_comm]
theorem ret_len {t : Nd} : (decide ((t.kids.length : Int) ≤ 1) && t.kids.all exprB) = ((lenK t 0 || kidsB t [expK]) && t.kids.all permF) := by
  by_cases h : t.kids.length = 0
  · rw [List.length_eq_zero_iff.1 h, show lenK t 0 = true by rw [lenK, decide_eq_true_eq]; omega]; rfl
  by_cases h1 : t.kids.length = 1
  · rw [show lenK t 0 = false from lenK_f 0 h, Bool.false_or, kids_1, show decide ((t.kids.length : Int) ≤ 1) = lenK t 1 by rw [lenK, decide_eq_decide]; omega, all_1]; rfl
  · rw [show lenK t 0 = false from lenK_f 0 h, kidsB_f h1, decide_eq_false (by omega)]; rfl
theorem refStmt_eq (t : Nd) : refStmt t = stmtB t := by
  rw [stmtB]
  by_cases h : t.kind = 6
  · rw [refStmt, varB, h]; rfl
  by_cases h1 : t.kind = 10
  · rw [refStmt, blockB, h1]; rfl
  by_cases h2 : t.kind = 18
  · rw [refStmt, ifB, h2]; rfl
  by_cases h3 : t.kind = 22
  · rw [refStmt, h3]; rfl
  rw [permF_eq, locB]
  unfold refStmt textB' formB
  by_cases h4 : t.kind = 11
  · rw [h4]; exact fl1
  by_cases h5 : t.kind = 12
  · rw [h5]; exact fl2
  by_cases h6 : t.kind = 16
  · rw [h6]; exact fl2
  by_cases h7 : t.kind = 13
  · rw [h7]; refine Eq.trans ?_ (fl1 (X := plainB t) (q := memK [30, 33])); rw [← kindB_or]; rfl
  by_cases h8 : t.kind = 14
  · rw [h8]; refine Eq.trans ?_ (fl1 (X := plainB t) (q := memK [30])); rw [← kindB_30]; rfl
  by_cases h9 : t.kind = 15
  · rw [h9]; refine Eq.trans ?_ (fl1 (X := plainB t) (q := memK [30])); rw [← kindB_30]; rfl
  by_cases h10 : t.kind = 17
  · rw [h10]; exact fl1
  by_cases h11 : t.kind = 21
  · rw [h11]; exact fl1
  by_cases h12 : t.kind = 20
  · rw [h12]; refine Eq.trans (b := (plainB t && decide ((t.kids.length : Int) ≤ 1)) && t.kids.all exprB) rfl ?_
    rw [Bool.and_assoc, ret_len, ← Bool.and_assoc]; rfl
  by_cases h13 : t.kind = 19
  · rw [h13]
    refine Eq.trans (b := ((plainB t && lenK t 2) && (noneB (kidAt t 0) || exprB (kidAt t 0))) && blockB (kidAt t 1)) rfl (Eq.trans (b := ((plainB t && kidsB t [fun k => expK k || memK [9] k, memK [10]]) && t.kids.all permF)) ?_ rfl)
    rw [Bool.and_assoc (plainB t) (kidsB t _), kids_2, memK_one, memK_one, noneB_eq, show exprB (kidAt t 0) = (expK (kidAt t 0).kind && permF (kidAt t 0)) from rfl, or_two, blockB]
    ac_rfl
  simp only [stK, anyK, decide_eq_false h, decide_eq_false h1, decide_eq_false h2, decide_eq_false h3, decide_eq_false h4, decide_eq_false h5, decide_eq_false h6, decide_eq_false h7, decide_eq_false h8, decide_eq_false h9, decide_eq_false h10, decide_eq_false h11, decide_eq_false h12, decide_eq_false h13, Bool.or_false, cond_false, Bool.false_and]
end Go.Rk
namespace Go.Rk
open Go Go.RowKit
/-- What the reference says of a tree, walked. -/
structure ROk (t : Nd) : Prop where
  ex : ∀ (p : Option Addr) (c : Nat) (D : Nat → Prop) (w : World), Kd w D t.kids (.slice p t.kids.length c) → Ret PP fn_r03_IsExpr #[ndV t (.slice p t.kids.length c)] w fun r w' => r = .bool (exprB t) ∧ G w w'
  bl : ∀ (p : Option Addr) (c : Nat) (D : Nat → Prop) (w : World), Kd w D t.kids (.slice p t.kids.length c) → Ret PP fn_r03_isBlock #[ndV t (.slice p t.kids.length c)] w fun r w' => r = .bool (blockB t) ∧ G w w'
  st : ∀ (p : Option Addr) (c : Nat) (D : Nat → Prop) (w : World), Kd w D t.kids (.slice p t.kids.length c) → Ret PP fn_r03_isStmt #[ndV t (.slice p t.kids.length c)] w fun r w' => r = .bool (stmtB t) ∧ G w w'
  fi : ∀ (p : Option Addr) (c : Nat) (D : Nat → Prop) (w : World), Kd w D t.kids (.slice p t.kids.length c) → Ret PP fn_r03_isIf #[ndV t (.slice p t.kids.length c)] w fun r w' => r = .bool (ifB t) ∧ G w w'
  cm : ∀ (p : Option Addr) (c : Nat) (D : Nat → Prop) (w : World), Kd w D t.kids (.slice p t.kids.length c) → Ret PP fn_r03_isComm #[ndV t (.slice p t.kids.length c)] w fun r w' => r = .bool (commF t) ∧ G w w'
def Below (t : Nd) : Prop := ∀ k, count k < count t → ROk k
theorem Below.kid {t : Nd} (ih : Below t) {i : Nat} (h : i < t.kids.length) : ROk (kidAt t i) := by
  refine ih _ ?_
  rw [kidAt_eq h]
  have := count_mem (List.getElem_mem h); omega
end Go.Rk
namespace Go.Rk
open Go Go.RowKit
end Go.Rk
namespace Go.Rk
open Go Go.RowKit
theorem count_kidAt {t : Nd} {i : Nat} (h : i < t.kids.length) : count (kidAt t i) < count t := by
  rw [kidAt_eq h]; have := count_mem (List.getElem_mem h); omega
end Go.Rk
namespace Go.Rk
open Go Go.RowKit
set_option linter.unusedVariables false
section
variable {P : Program} {n : Nat} {σ : List Ent} {c : Prop} {wb : World} {ty : TypeId}
theorem rd_min {x y : Operand} {k k' : IntKind} {a b : Int} {ts : Array TypeId} (h : Ev n σ c x (.int k a)) (h' : Ev n σ c y (.int k' b)) : Rd P n σ c wb (.call { callee := .builtin .min, args := #[x, y], argTypes := ts }) ty (.int k (if b < a then b else a)) := fun d pos after gd a ha hc w1 _ => by
  simp [execOp, resolve, invoke, builtin, h a ha hc, h' a ha hc, Builtin.min_, Builtin.min2]
end
end Go.Rk
namespace Go.Rk
open Go Go.RowKit
def fieldB (t : Nd) : Bool := decide (t.kind = 3) && permF t
theorem fieldB_not (t : Nd) : (!fieldB t) = (((!decide (t.kind = 3) || !nameB t.text) || !lenK t 1) || !isTypeB (kidAt t 0)) := by
  have e : fieldB t = (((decide (t.kind = 3) && nameB t.text) && lenK t 1) && isTypeB (kidAt t 0)) := by
    rw [fieldB]
    by_cases h : t.kind = 3
    · rw [permF_eq, locB, textB', formB, h, isTypeB_eq]; exact congrArg (true && ·) (fl1 (X := nameB t.text) (q := typK)).symm |>.trans (by rfl)
    · rw [decide_eq_false h]; rfl
  rw [e]
  cases decide (t.kind = 3) <;> cases nameB t.text <;> cases lenK t 1 <;> cases isTypeB (kidAt t 0) <;> rfl
def declB (t : Nd) : Bool := (memK [2, 6, 4] t.kind && permF t) && !fileVarB t
def refDecl (t : Nd) : Bool :=
  bif decide (t.kind = 2) then nameB t.text && t.kids.all fieldB
  else bif decide (t.kind = 6) then varB t && noneB (kidAt t 1)
  else bif decide (t.kind = 4) then
    bif !nameB t.text || !lenK t 3 then false else (((decide ((kidAt t 0).kind = 5) && plainB (kidAt t 0)) && (kidAt t 0).kids.all fieldB) && (noneB (kidAt t 1) || isTypeB (kidAt t 1))) && blockB (kidAt t 2)
  else false
theorem all_field {t : Nd} : (everyB t (memK [3]) && t.kids.all permF) = t.kids.all fieldB := by
  rw [every_all]; congr 1; funext k; rw [memK_one]; rfl
theorem params_eq (t : Nd) : ((decide (t.kind = 5) && plainB t) && t.kids.all fieldB) = (memK [5] t.kind && permF t) := by
  rw [memK_one]
  by_cases h : t.kind = 5
  · rw [permF_eq t, locB, textB', formB, h, Bool.and_assoc]; exact congrArg (true && ·) (by rw [← all_field, ← Bool.and_assoc]; rfl)
  · rw [decide_eq_false h]; rfl
theorem refDecl_eq (t : Nd) : refDecl t = declB t := by
  rw [refDecl, declB]
  by_cases h : t.kind = 2
  · rw [permF_eq t, locB, textB', formB, fileVarB, h]
    refine Eq.trans (b := (nameB t.text && everyB t (memK [3])) && t.kids.all permF) ?_ (Eq.trans (Bool.and_true _).symm rfl)
    rw [Bool.and_assoc (nameB t.text) (everyB t _), all_field]; rfl
  by_cases h1 : t.kind = 6
  · rw [varB, fileVarB, h1]
    refine Eq.trans (b := permF t && noneB (kidAt t 1)) rfl (Eq.trans (b := permF t && !(!lenK t 2 || !decide ((kidAt t 1).kind = 9))) ?_ rfl)
    rw [noneB_eq]
    cases hp : permF t with
    | false => rfl
    | true =>
      have hl := perm_len2 (.inr h1) hp
      have hk : permF (kidAt t 1) = true := by
        rw [permF_eq, Bool.and_eq_true, List.all_eq_true] at hp
        rw [kidAt_eq (by omega)]; exact hp.2 _ (List.getElem_mem _)
      rw [hk, show lenK t 2 = true by rw [lenK, decide_eq_true_eq]; omega]
      cases decide ((kidAt t 1).kind = 9) <;> rfl
  by_cases h2 : t.kind = 4
  · rw [params_eq, permF_eq t, locB, textB', formB, fileVarB, h2]
    refine Eq.trans (b := bif !nameB t.text || !lenK t 3 then false else ((memK [5] (kidAt t 0).kind && permF (kidAt t 0)) && (noneB (kidAt t 1) || isTypeB (kidAt t 1))) && blockB (kidAt t 2)) rfl (Eq.trans (b := (nameB t.text && kidsB t [memK [5], fun k => typK k || memK [9] k, memK [10]]) && t.kids.all permF) ?_ (Eq.trans (Bool.and_true _).symm rfl))
    rw [not_if2, Bool.and_assoc (nameB t.text) (kidsB t _), kids_3, noneB_eq, isTypeB_eq, or_two, blockB, memK_one 9, memK_one 10]
    ac_rfl
  simp only [memK, List.mem_cons, List.not_mem_nil, h, h1, h2, decide_false, or_false, cond_false, Bool.false_and]
theorem rvalid_eq (t : Nd) : (bif (!decide (t.kind = 1) || !plainB t) || decide ((50 : Int) < (depthN t : Nat)) then false else t.kids.all declB) = validB t := by
  rw [validB, permB]
  by_cases h : t.kind = 1
  · rw [permF_eq, locB, textB', formB, h]
    refine Eq.trans (b := bif !plainB t || decide ((50 : Int) < (depthN t : Nat)) then false else t.kids.all declB) rfl (Eq.trans (b := ((plainB t && (!(t.kids.any fileVarB) && everyB t (memK [2, 6, 4]))) && t.kids.all permF) && decide (depthN t ≤ 50)) ?_ rfl)
    have e1 : decide ((50 : Int) < (depthN t : Nat)) = !decide (depthN t ≤ 50) := by
      rw [← decide_not, decide_eq_decide]; omega
    have e2 : t.kids.all declB = ((!(t.kids.any fileVarB) && everyB t (memK [2, 6, 4])) && t.kids.all permF) := by
      rw [Bool.and_assoc, every_all, Bool.eq_iff_iff]
      simp only [Bool.and_eq_true, List.all_eq_true, declB, Bool.not_eq_true', List.any_eq_false]
      constructor
      · intro h; exact ⟨fun k hk => by rw [(h k hk).2]; simp, fun k hk => (h k hk).1⟩
      · rintro ⟨h1, h2⟩ k hk; exact ⟨h2 k hk, by simpa using h1 k hk⟩
    rw [e1, not_if2, e2]; ac_rfl
  · rw [decide_eq_false h]; rfl
end Go.Rk
namespace Go.Rk
open Go Go.RowKit
def countsB (t : Nd) : Bool := decide (t.kind = 24) || decide (t.kind = 25)
theorem rcounts_ok (t : Nd) (p : Option Addr) (c : Nat) (w : World) : Ret PP fn_r03_counts #[ndV t (.slice p t.kids.length c)] w fun v w' => v = .bool (countsB t) ∧ G w w' := by
  have g := G.refl w
  refine ret_of_sc (m := 11) func_r03_counts rfl rfl [(0, True, _)] (sub_cons rfl (sub_nil _)) ?_
  refine sc_seq fun K1 hK1 => ?_
  refine sc_text [1, 3] ?_
  refine sr_box rfl (ev_t rfl) rfl ?_
  intro b1 w1 N1
  have l1 := N1.ge g
  have g := g.trans (N1.g)
  have B1 := N1.blk
  refine sr_pu rfl (fun _ => rd_assign ev_c) ?_
  refine sr_sub [(1, _, _), (2, _, _)] (sub_cons rfl (sub_cons rfl (sub_nil _))) ?_
  refine sr_nil (hK1 _ _ ?_)
  refine sc_seq fun K2 hK2 => ?_
  refine sc_text [3, 0, 3, 3, 3, 0, 3, 3, 3] ?_
  refine sr_pu rfl (fun _ => rd_field fo_api_Node_0 (ev_t rfl)) ?_
  refine sr_rd rfl (rd_load one_int (ev_t rfl) (fun _ => B1.at_ rfl)) ?_
  refine sr_pu rfl (fun _ => rd_eq (ev_t rfl) ev_c) ?_
  refine sr_pu rfl (fun _ => rd_move (ev_t rfl)) ?_
  refine sr_pug rfl rfl rfl (fun _ => rd_field fo_api_Node_0 (ev_t rfl)) ?_
  refine sr_rdg rfl rfl rfl (rd_load one_int (ev_u rfl id) (fun _ => B1.at_ rfl)) ?_
  refine sr_pug rfl rfl rfl (fun _ => rd_eq (ev_u rfl id) ev_c) ?_
  refine sr_pu rfl (fun _ => rd_pick_or (ev_t rfl) (ev_u rfl id)) ?_
  refine sr_pu rfl (fun _ => rd_assign (ev_t rfl)) ?_
  refine sr_sub [(2, _, _)] (sub_cons rfl (sub_nil _)) ?_
  refine sr_nil (hK2 _ _ ?_)
  refine sc_ret (t_ret1 rfl rfl ?_)
  exact ⟨rfl, g⟩
def lenQ (a b : Nd) : Bool := decide ((a.kids.length : Int) = b.kids.length)
def eqLoc (a b : Nd) : Bool := ((decide (a.kind = b.kind) && decide (a.text = b.text)) && lenQ a b) && (!countsB a || decide (a.num = b.num))
theorem eqLoc_not (a b : Nd) : (!eqLoc a b) = (((!decide (a.kind = b.kind) || !decide (a.text = b.text)) || !lenQ a b) || (countsB a && !decide (a.num = b.num))) := by
  unfold eqLoc
  cases decide (a.kind = b.kind) <;> cases decide (a.text = b.text) <;> cases lenQ a b <;> cases countsB a <;> cases decide (a.num = b.num) <;> rfl
/-- A comparison, node by node. -/
def cmpT (q : Nd → Nd → Bool) (a : Nd) : Nd → Bool := para (fun a l b => q a b && (List.range a.kids.length).all fun i => (l.getD i fun _ => false) (kidAt b i)) a
theorem all_range {n : Nat} {f h : Nat → Bool} (e : ∀ i, i < n → f i = h i) : (List.range n).all f = (List.range n).all h := by
  rw [Bool.eq_iff_iff, List.all_eq_true, List.all_eq_true]
  exact ⟨fun k i hi => (e i (List.mem_range.1 hi)) ▸ k i hi, fun k i hi => (e i (List.mem_range.1 hi)).symm ▸ k i hi⟩
theorem cmpT_eq (q : Nd → Nd → Bool) (a b : Nd) : cmpT q a b = (q a b && (List.range a.kids.length).all fun i => cmpT q (kidAt a i) (kidAt b i)) := by
  rw [cmpT, para_eq]
  refine congrArg (q a b && ·) (all_range fun i hi => ?_)
  have : (a.kids.map (cmpT q)).getD i (fun _ => false) = cmpT q (kidAt a i) := by
    rw [kidAt_eq hi]; simp [List.getD_eq_getElem?_getD, List.getElem?_eq_getElem hi]
  exact congrFun this (kidAt b i)
def eqB (a b : Nd) : Bool := cmpT eqLoc a b
theorem eqB_eq (a b : Nd) : eqB a b = (eqLoc a b && (List.range a.kids.length).all fun i => eqB (kidAt a i) (kidAt b i)) := cmpT_eq eqLoc a b
theorem lenQ_iff {a b : Nd} : lenQ a b = true ↔ a.kids.length = b.kids.length := by rw [lenQ, decide_eq_true_eq]; omega
theorem eqLoc_len {a b : Nd} (h : eqLoc a b = true) : a.kids.length = b.kids.length := by
  unfold eqLoc at h; rw [Bool.and_eq_true, Bool.and_eq_true] at h; exact lenQ_iff.1 h.1.2
theorem requal_ok : ∀ (a : Nd) (va : Value) (D : Nat → Prop) (b : Nd) (vb : Value) (D' : Nat → Prop) (w : World), Kd w D a.kids va → Kd w D' b.kids vb → count a ≤ 1000000 → Ret PP fn_r03_Equal #[ndV a va, ndV b vb] w fun r w' => r = .bool (eqB a b) ∧ G w w' := by
  refine Nd.ind fun a ih va D b vb D' w hka hkb hcn => ?_
  obtain ⟨pa, ca, rfl, hcapa, hksa⟩ := hka
  have hka0 : Kd w D a.kids (.slice pa a.kids.length ca) := ⟨pa, ca, rfl, hcapa, hksa⟩
  obtain ⟨pb', cb, rfl, hcapb, hksb⟩ := hkb
  have hkb0 : Kd w D' b.kids (.slice pb' b.kids.length cb) := ⟨pb', cb, rfl, hcapb, hksb⟩
  have g := G.refl w
  have hln := kids_le a
  rw [eqB_eq]
  refine ret_of_sc (m := 57) func_r03_Equal rfl rfl [(0, True, _), (1, True, _)] (sub_cons rfl (sub_cons rfl (sub_nil _))) ?_
  refine sc_seq fun K1 hK1 => ?_
  refine sc_text [1, 1, 3] ?_
  refine sr_box rfl (ev_t rfl) rfl ?_
  intro b2 w2 N2
  have l2 := N2.ge g
  have g := g.trans (N2.g)
  have B2 := N2.blk
  refine sr_box rfl (ev_t rfl) rfl ?_
  intro b3 w3 N3
  have x3_2 := N3.ne B2
  have l3 := N3.ge g
  have g := g.trans (N3.g)
  replace B2 := B2.grow (N3.g)
  have B3 := N3.blk
  refine sr_pu rfl (fun _ => rd_assign ev_c) ?_
  refine sr_sub [(2, _, _), (3, _, _), (4, _, _)] (sub_cons rfl (sub_cons rfl (sub_cons rfl (sub_nil _)))) ?_
  refine sr_nil (hK1 _ _ ?_)
  refine sc_seq fun K2 hK2 => ?_
  refine sc_seq fun K3 hK3 => ?_
  refine sc_text [3, 0, 3, 0, 3, 3, 3, 0, 3, 0, 3, 3, 3, 3, 0, 3, 3, 0, 3, 3, 3, 3, 0, 1, 3, 3, 0, 3, 0, 3, 3, 3] ?_
  refine sr_pu rfl (fun _ => rd_field fo_api_Node_0 (ev_t rfl)) ?_
  refine sr_rd rfl (rd_load one_int (ev_t rfl) (fun _ => B2.at_ rfl)) ?_
  refine sr_pu rfl (fun _ => rd_field fo_api_Node_0 (ev_t rfl)) ?_
  refine sr_rd rfl (rd_load one_int (ev_t rfl) (fun _ => B3.at_ rfl)) ?_
  refine sr_pu rfl (fun _ => rd_ne (ev_t rfl) (ev_t rfl)) ?_
  refine sr_pu rfl (fun _ => rd_move (ev_t rfl)) ?_
  refine sr_pug rfl rfl rfl (fun _ => rd_field fo_api_Node_1 (ev_t rfl)) ?_
  refine sr_rdg rfl rfl rfl (rd_load one_string (ev_u rfl id) (fun _ => B2.at_ rfl)) ?_
  refine sr_pug rfl rfl rfl (fun _ => rd_field fo_api_Node_1 (ev_t rfl)) ?_
  refine sr_rdg rfl rfl rfl (rd_load one_string (ev_u rfl id) (fun _ => B3.at_ rfl)) ?_
  refine sr_pug rfl rfl rfl (fun _ => rd_sne (ev_u rfl id) (ev_u rfl id)) ?_
  refine sr_pu rfl (fun _ => rd_pick_or (ev_t rfl) (ev_u rfl id)) ?_
  refine sr_pu rfl (fun _ => rd_move (ev_t rfl)) ?_
  refine sr_pug rfl rfl rfl (fun _ => rd_field fo_api_Node_4 (ev_t rfl)) ?_
  refine sr_rdg rfl rfl rfl (rd_load one_sl_api_Node (ev_u rfl id) (fun _ => B2.at_ rfl)) ?_
  refine sr_pug rfl rfl rfl (fun _ => rd_len el_sl_api_Node (ev_u rfl id)) ?_
  refine sr_pug rfl rfl rfl (fun _ => rd_field fo_api_Node_4 (ev_t rfl)) ?_
  refine sr_rdg rfl rfl rfl (rd_load one_sl_api_Node (ev_u rfl id) (fun _ => B3.at_ rfl)) ?_
  refine sr_pug rfl rfl rfl (fun _ => rd_len el_sl_api_Node (ev_u rfl id)) ?_
  refine sr_pug rfl rfl rfl (fun _ => rd_ne (ev_u rfl id) (ev_u rfl id)) ?_
  refine sr_pu rfl (fun _ => rd_pick_or (ev_t rfl) (ev_u rfl id)) ?_
  refine sr_pu rfl (fun _ => rd_move (ev_t rfl)) ?_
  refine sr_rdg rfl rfl rfl (rd_loads agg_api_Node (ev_t rfl) rfl (fun _ => B2.row)) ?_
  refine sr_pureg rfl rfl rfl (fun _ => (rc_call go_r03_counts ev_f (args_cons (ev_u rfl id) (args_nil)) rfl)) (fun hc => rcounts_ok _ _ _ _) (fun w29 g29 => ?_)
  have g := g.trans (g29)
  replace B2 := B2.grow (g29)
  replace B3 := B3.grow (g29)
  refine sr_pug rfl rfl rfl (fun _ => rd_move (ev_u rfl id)) ?_
  refine sr_pug rfl rfl rfl (fun _ => rd_field fo_api_Node_2 (ev_t rfl)) ?_
  refine sr_rdg rfl rfl rfl (rd_load one_int (ev_u rfl id) (fun _ => B2.at_ rfl)) ?_
  refine sr_pug rfl rfl rfl (fun _ => rd_field fo_api_Node_2 (ev_t rfl)) ?_
  refine sr_rdg rfl rfl rfl (rd_load one_int (ev_u rfl id) (fun _ => B3.at_ rfl)) ?_
  refine sr_pug rfl rfl rfl (fun _ => rd_ne (ev_u rfl id) (ev_u rfl id)) ?_
  refine sr_pug rfl rfl rfl (fun _ => rd_pick_and (ev_u rfl id) (ev_u rfl id)) ?_
  refine sr_pu rfl (fun _ => rd_pick_or (ev_t rfl) (ev_u rfl id)) ?_
  refine sr_sub [(2, _, _), (3, _, _), (4, _, _), (37, _, _)] (sub_cons rfl (sub_cons rfl (sub_cons rfl (sub_cons rfl (sub_nil _))))) ?_
  refine sr_nil (hK3 _ _ ?_)
  refine sc_cond (ev_t rfl) (fun h1 => ?_) (fun h1 => ?_)
  · replace h1 : eqLoc a b = false := by simpa using (eqLoc_not a b).trans h1
    refine sc_seq fun K4 hK4 => ?_
    refine sc_text [3] ?_
    refine sr_pu rfl (fun _ => rd_assign ev_c) ?_
    refine sr_sub [(2, _, _), (3, _, _), (4, _, _)] (sub_cons rfl (sub_cons rfl (sub_cons rfl (sub_nil _)))) ?_
    refine sr_nil (hK4 _ _ ?_)
    refine sc_ret (t_ret1 rfl rfl ?_)
    rw [h1]; exact ⟨rfl, g⟩
  replace h1 : eqLoc a b = true := by simpa using (eqLoc_not a b).trans h1
  have hl := eqLoc_len h1
  refine sc_skip (hK2 _ _ ?_)
  refine sc_sub [(2, _, _), (3, _, _), (4, _, _)] (sub_cons rfl (sub_cons rfl (sub_cons rfl (sub_nil _)))) ?_
  refine sc_seq fun K5 hK5 => ?_
  refine sc_seq fun K6 hK6 => ?_
  refine sc_text [3] ?_
  refine sr_pu rfl (fun _ => rd_assign ev_c) ?_
  refine sr_nil (hK6 _ _ ?_)
  refine sc_block ?_
  refine sc_loop2 (fun (i : Nat) u1 => (i ≤ a.kids.length ∧ ∀ j, j < i → eqB (kidAt a j) (kidAt b j) = true) ∧ G w29 u1) [(2, True, _), (3, True, _)] (fun (i : Nat) => [(5, True, .int .i64 i)]) (fun (i : Nat) => a.kids.length - i) (0) ⟨⟨Nat.zero_le _, fun j hj => absurd hj (Nat.not_lt_zero j)⟩, G.refl _⟩ (sub_cons rfl (sub_cons rfl (sub_cons rfl (sub_nil _)))) ?_
  rintro i u1 ⟨hI1, gl1⟩
  have g := g.trans gl1
  replace B2 := B2.grow (gl1)
  replace B3 := B3.grow (gl1)
  refine sc_seq fun K7 hK7 => ?_
  refine sc_seq fun K8 hK8 => ?_
  refine sc_text [3, 3, 0, 3, 3] ?_
  refine sr_pu rfl (fun _ => rd_move (ev_t rfl)) ?_
  refine sr_pu rfl (fun _ => rd_field fo_api_Node_4 (ev_t rfl)) ?_
  refine sr_rd rfl (rd_load one_sl_api_Node (ev_t rfl) (fun _ => B2.at_ rfl)) ?_
  refine sr_pu rfl (fun _ => rd_len el_sl_api_Node (ev_t rfl)) ?_
  refine sr_pu rfl (fun _ => rd_lt (ev_t rfl) (ev_t rfl)) ?_
  refine sr_sub [(2, _, _), (3, _, _), (5, _, _), (42, _, _)] (sub_cons rfl (sub_cons rfl (sub_cons rfl (sub_cons rfl (sub_nil _))))) ?_
  refine sr_nil (hK8 _ _ ?_)
  refine sc_cond (ev_t rfl) (fun h2 => ?_) (fun h2 => ?_)
  · replace h2 : i < a.kids.length := by simp only [decide_eq_true_eq] at h2; omega
    obtain ⟨hpa, p1, c1, hcell1, hkid1⟩ := kd_opt hka0 h2
    obtain ⟨hpb, p2, c2, hcell2, hkid2⟩ := kd_opt hkb0 (i := i) (by omega)
    have hck := count_kidAt h2
    refine sc_skip (hK7 _ _ ?_)
    refine sc_sub [(2, _, _), (3, _, _), (5, _, _)] (sub_cons rfl (sub_cons rfl (sub_cons rfl (sub_nil _)))) ?_
    refine sc_seq fun K9 hK9 => ?_
    refine sc_block ?_
    refine sc_seq fun K10 hK10 => ?_
    refine sc_draw [3, 0, 3, 3, 0, 3, 0, 3, 3, 0, 1, 3] [true, true, true, true, true, true, true, true, true, true, true, true] [0, 1, 0, 7, 15, 0, 32, 0, 224, 480, 1023, 2047] mix (by kernel_rfl) ?_
    have g := g.trans (G.drew _)
    try have gl1 := gl1.trans (G.drew _)
    replace B2 := B2.grow (G.drew _)
    replace B3 := B3.grow (G.drew _)
    refine sr_pu rfl (fun _ => rd_field fo_api_Node_4 (ev_t rfl)) ?_
    refine sr_rd rfl (rd_load one_sl_api_Node (ev_t rfl) (fun _ => B2.at_ rfl)) ?_
    refine sr_pu rfl (fun _ => rd_move (ev_t rfl)) ?_
    refine sr_pu rfl (fun _ => rd_idxq el_sl_api_Node (ev_t rfl) (ev_t rfl) (fun _ => by omega) (fun _ => hpa)) ?_
    refine sr_rd rfl (rd_loads agg_api_Node (ev_t rfl) rfl (fun _ => hcell1.grow g)) ?_
    refine sr_pu rfl (fun _ => rd_field fo_api_Node_4 (ev_t rfl)) ?_
    refine sr_rd rfl (rd_load one_sl_api_Node (ev_t rfl) (fun _ => B3.at_ rfl)) ?_
    refine sr_pu rfl (fun _ => rd_move (ev_t rfl)) ?_
    refine sr_pu rfl (fun _ => rd_idxq el_sl_api_Node (ev_t rfl) (ev_t rfl) (fun _ => by omega) (fun _ => hpb)) ?_
    refine sr_rd rfl (rd_loads agg_api_Node (ev_t rfl) rfl (fun _ => hcell2.grow g)) ?_
    refine sr_pure rfl (rc_call go_r03_Equal ev_f (args_cons (ev_t rfl) (args_cons (ev_t rfl) (args_nil))) rfl) (ih _ (kidAt_eq h2 ▸ List.getElem_mem h2) _ D _ _ D' _ (hkid1.grow g) (hkid2.grow g) (by omega)) (fun w55 g55 => ?_)
    have g := g.trans (g55)
    try have gl1 := gl1.trans (g55)
    replace B2 := B2.grow (g55)
    replace B3 := B3.grow (g55)
    refine sr_pu rfl (fun _ => rd_not (ev_t rfl)) ?_
    refine sr_sub [(2, _, _), (3, _, _), (5, _, _), (56, _, _)] (sub_cons rfl (sub_cons rfl (sub_cons rfl (sub_cons rfl (sub_nil _))))) ?_
    refine sr_nil (hK10 _ _ ?_)
    refine sc_cond (ev_t rfl) (fun h3 => ?_) (fun h3 => ?_)
    · (try simp only [bsimp] at h3)
      refine sc_seq fun K11 hK11 => ?_
      refine sc_text [3] ?_
      refine sr_pu rfl (fun _ => rd_assign ev_c) ?_
      refine sr_sub [(2, _, _), (3, _, _), (4, _, _), (5, _, _)] (sub_cons rfl (sub_cons rfl (sub_cons rfl (sub_cons rfl (sub_nil _))))) ?_
      refine sr_nil (hK11 _ _ ?_)
      refine sc_ret (t_ret1 rfl rfl ?_)
      refine ⟨congrArg Value.bool ?_, g⟩
      rw [h1, Bool.true_and, eq_comm, List.all_eq_false]
      exact ⟨i, List.mem_range.2 h2, by simpa using h3⟩
    (try simp only [bsimp] at h3)
    refine sc_skip (hK9 _ _ ?_)
    refine sc_sub [(2, _, _), (3, _, _), (5, _, _)] (sub_cons rfl (sub_cons rfl (sub_cons rfl (sub_nil _)))) ?_
    refine sc_text [3, 3, 3] ?_
    refine sr_pu rfl (fun _ => rd_move (ev_t rfl)) ?_
    refine sr_pu rfl (fun _ => rd_add (ev_t rfl) ev_c (fun _ => by omega)) ?_
    refine sr_pu rfl (fun _ => rd_assign (ev_t rfl)) ?_
    refine sr_sub [(5, _, _), (2, _, _), (3, _, _)] (sub_cons rfl (sub_cons rfl (sub_cons rfl (sub_nil _)))) ?_
    refine sr_nil (fun a ha => ?_)
    refine ⟨i + 1, ha, ⟨⟨h2, fun j hj => ?_⟩, gl1⟩, by omega⟩
    by_cases e : j = i
    · subst e; simpa using h3
    · exact hI1.2 j (by omega)
  (try simp only [bsimp] at h2)
  refine sc_exit rfl (hK5 _ _ ?_)
  refine sc_sub [] (sub_nil _) ?_
  refine sc_seq fun K12 hK12 => ?_
  refine sc_text [3] ?_
  refine sr_pu rfl (fun _ => rd_assign ev_c) ?_
  refine sr_nil (hK12 _ _ ?_)
  refine sc_ret (t_ret1 rfl rfl ?_)
  refine ⟨congrArg Value.bool ?_, g⟩
  rw [h1, Bool.true_and, eq_comm, List.all_eq_true]
  intro j hj
  exact hI1.2 j (by have := List.mem_range.1 hj; simp only [decide_eq_false_iff_not] at h2; omega)
def tyQB (a b : Ty) : Bool := decide (a.kind = b.kind) && (decide (a.name = b.name) && true)
theorem tyQB_iff (a b : Ty) : tyQB a b = true ↔ a = b := by
  cases a; cases b
  simp [tyQB]
def smLoc (a b : Nd) : Bool := ((((((decide (a.kind = b.kind) && decide (a.text = b.text)) && decide (a.num = b.num)) && decide (a.pos = b.pos)) && tyQB a.ty b.ty) && decide (a.ref = b.ref)) && decide (a.up = b.up)) && lenQ a b
theorem smLoc_not (a b : Nd) : (!smLoc a b) = (((((((!decide (a.kind = b.kind) || !decide (a.text = b.text)) || !decide (a.num = b.num)) || !decide (a.pos = b.pos)) || !tyQB a.ty b.ty) || !decide (a.ref = b.ref)) || !decide (a.up = b.up)) || !lenQ a b) := by
  unfold smLoc; simp only [Bool.not_and]
def smB (a b : Nd) : Bool := cmpT smLoc a b
theorem smB_eq (a b : Nd) : smB a b = (smLoc a b && (List.range a.kids.length).all fun i => smB (kidAt a i) (kidAt b i)) := cmpT_eq smLoc a b
theorem smLoc_len {a b : Nd} (h : smLoc a b = true) : a.kids.length = b.kids.length := by
  unfold smLoc at h; rw [Bool.and_eq_true] at h; exact lenQ_iff.1 h.2
theorem smB_refl : ∀ a, smB a a = true := by
  refine Nd.ind fun a ih => ?_
  rw [smB_eq, Bool.and_eq_true, List.all_eq_true]
  refine ⟨by simp [smLoc, lenQ, (tyQB_iff a.ty a.ty).2 rfl], fun i hi => ?_⟩
  rw [kidAt_eq (List.mem_range.1 hi)]; exact ih _ (List.getElem_mem _)
theorem smB_iff : ∀ a b, smB a b = true ↔ a = b := by
  refine Nd.ind fun a ih b => ⟨fun h => ?_, fun h => h ▸ smB_refl a⟩
  rw [smB_eq, Bool.and_eq_true, List.all_eq_true] at h
  have hl := smLoc_len h.1
  have hk : a.kids = b.kids := by
    refine List.ext_getElem hl fun i h1 h2 => ?_
    have := h.2 i (List.mem_range.2 h1)
    rw [kidAt_eq h1, kidAt_eq h2] at this
    exact (ih _ (List.getElem_mem h1) _).1 this
  have h1 := h.1
  unfold smLoc at h1
  simp only [Bool.and_eq_true, decide_eq_true_eq, tyQB_iff] at h1
  rw [← Nd.eta a, ← Nd.eta b, hk, h1.1.1.1.1.1.1.1, h1.1.1.1.1.1.1.2, h1.1.1.1.1.1.2, h1.1.1.1.1.2, h1.1.1.1.2, h1.1.1.2, h1.1.2]
theorem rsame_ok : ∀ (a : Nd) (va : Value) (D : Nat → Prop) (b : Nd) (vb : Value) (D' : Nat → Prop) (w : World), Kd w D a.kids va → Kd w D' b.kids vb → count a ≤ 1000000 → Ret PP fn_r03_Same #[ndV a va, ndV b vb] w fun r w' => r = .bool (smB a b) ∧ G w w' := by
  refine Nd.ind fun a ih va D b vb D' w hka hkb hcn => ?_
  obtain ⟨pa, ca, rfl, hcapa, hksa⟩ := hka
  have hka0 : Kd w D a.kids (.slice pa a.kids.length ca) := ⟨pa, ca, rfl, hcapa, hksa⟩
  obtain ⟨pb', cb, rfl, hcapb, hksb⟩ := hkb
  have hkb0 : Kd w D' b.kids (.slice pb' b.kids.length cb) := ⟨pb', cb, rfl, hcapb, hksb⟩
  have g := G.refl w
  have hln := kids_le a
  rw [smB_eq]
  refine ret_of_sc (m := 81) func_r03_Same rfl rfl [(0, True, _), (1, True, _)] (sub_cons rfl (sub_cons rfl (sub_nil _))) ?_
  refine sc_seq fun K1 hK1 => ?_
  refine sc_text [1, 1, 3] ?_
  refine sr_box rfl (ev_t rfl) rfl ?_
  intro b2 w2 N2
  have l2 := N2.ge g
  have g := g.trans (N2.g)
  have B2 := N2.blk
  refine sr_box rfl (ev_t rfl) rfl ?_
  intro b3 w3 N3
  have x3_2 := N3.ne B2
  have l3 := N3.ge g
  have g := g.trans (N3.g)
  replace B2 := B2.grow (N3.g)
  have B3 := N3.blk
  refine sr_pu rfl (fun _ => rd_assign ev_c) ?_
  refine sr_sub [(2, _, _), (3, _, _), (4, _, _)] (sub_cons rfl (sub_cons rfl (sub_cons rfl (sub_nil _)))) ?_
  refine sr_nil (hK1 _ _ ?_)
  refine sc_seq fun K2 hK2 => ?_
  refine sc_seq fun K3 hK3 => ?_
  refine sc_text [3, 0, 3, 0, 3, 3, 3, 0, 3, 0, 3, 3, 3, 3, 0, 3, 0, 3, 3, 3, 3, 0, 3, 0, 3, 3, 3, 3, 0, 3, 0, 3, 3, 3, 3, 0, 3, 0, 3, 3, 3, 3, 0, 3, 0, 3, 3, 3, 3, 0, 3, 3, 0, 3, 3, 3] ?_
  refine sr_pu rfl (fun _ => rd_field fo_api_Node_0 (ev_t rfl)) ?_
  refine sr_rd rfl (rd_load one_int (ev_t rfl) (fun _ => B2.at_ rfl)) ?_
  refine sr_pu rfl (fun _ => rd_field fo_api_Node_0 (ev_t rfl)) ?_
  refine sr_rd rfl (rd_load one_int (ev_t rfl) (fun _ => B3.at_ rfl)) ?_
  refine sr_pu rfl (fun _ => rd_ne (ev_t rfl) (ev_t rfl)) ?_
  refine sr_pu rfl (fun _ => rd_move (ev_t rfl)) ?_
  refine sr_pug rfl rfl rfl (fun _ => rd_field fo_api_Node_1 (ev_t rfl)) ?_
  refine sr_rdg rfl rfl rfl (rd_load one_string (ev_u rfl id) (fun _ => B2.at_ rfl)) ?_
  refine sr_pug rfl rfl rfl (fun _ => rd_field fo_api_Node_1 (ev_t rfl)) ?_
  refine sr_rdg rfl rfl rfl (rd_load one_string (ev_u rfl id) (fun _ => B3.at_ rfl)) ?_
  refine sr_pug rfl rfl rfl (fun _ => rd_sne (ev_u rfl id) (ev_u rfl id)) ?_
  refine sr_pu rfl (fun _ => rd_pick_or (ev_t rfl) (ev_u rfl id)) ?_
  refine sr_pu rfl (fun _ => rd_move (ev_t rfl)) ?_
  refine sr_pug rfl rfl rfl (fun _ => rd_field fo_api_Node_2 (ev_t rfl)) ?_
  refine sr_rdg rfl rfl rfl (rd_load one_int (ev_u rfl id) (fun _ => B2.at_ rfl)) ?_
  refine sr_pug rfl rfl rfl (fun _ => rd_field fo_api_Node_2 (ev_t rfl)) ?_
  refine sr_rdg rfl rfl rfl (rd_load one_int (ev_u rfl id) (fun _ => B3.at_ rfl)) ?_
  refine sr_pug rfl rfl rfl (fun _ => rd_ne (ev_u rfl id) (ev_u rfl id)) ?_
  refine sr_pu rfl (fun _ => rd_pick_or (ev_t rfl) (ev_u rfl id)) ?_
  refine sr_pu rfl (fun _ => rd_move (ev_t rfl)) ?_
  refine sr_pug rfl rfl rfl (fun _ => rd_field fo_api_Node_3 (ev_t rfl)) ?_
  refine sr_rdg rfl rfl rfl (rd_load one_int (ev_u rfl id) (fun _ => B2.at_ rfl)) ?_
  refine sr_pug rfl rfl rfl (fun _ => rd_field fo_api_Node_3 (ev_t rfl)) ?_
  refine sr_rdg rfl rfl rfl (rd_load one_int (ev_u rfl id) (fun _ => B3.at_ rfl)) ?_
  refine sr_pug rfl rfl rfl (fun _ => rd_ne (ev_u rfl id) (ev_u rfl id)) ?_
  refine sr_pu rfl (fun _ => rd_pick_or (ev_t rfl) (ev_u rfl id)) ?_
  refine sr_pu rfl (fun _ => rd_move (ev_t rfl)) ?_
  refine sr_pug rfl rfl rfl (fun _ => rd_field fo_api_Node_5 (ev_t rfl)) ?_
  refine sr_rdg rfl rfl rfl (rd_loads agg_api_Type (ev_u rfl id) rfl (fun _ => B2.row.part 5 2)) ?_
  refine sr_pug rfl rfl rfl (fun _ => rd_field fo_api_Node_5 (ev_t rfl)) ?_
  refine sr_rdg rfl rfl rfl (rd_loads agg_api_Type (ev_u rfl id) rfl (fun _ => B3.row.part 5 2)) ?_
  refine sr_pug rfl rfl rfl (fun _ => rd_stne fl_api_Type (ev_u rfl id) (ev_u rfl id) rfl) ?_
  refine sr_pu rfl (fun _ => rd_pick_or (ev_t rfl) (ev_u rfl id)) ?_
  refine sr_pu rfl (fun _ => rd_move (ev_t rfl)) ?_
  refine sr_pug rfl rfl rfl (fun _ => rd_field fo_api_Node_6 (ev_t rfl)) ?_
  refine sr_rdg rfl rfl rfl (rd_load one_int (ev_u rfl id) (fun _ => B2.at_ rfl)) ?_
  refine sr_pug rfl rfl rfl (fun _ => rd_field fo_api_Node_6 (ev_t rfl)) ?_
  refine sr_rdg rfl rfl rfl (rd_load one_int (ev_u rfl id) (fun _ => B3.at_ rfl)) ?_
  refine sr_pug rfl rfl rfl (fun _ => rd_ne (ev_u rfl id) (ev_u rfl id)) ?_
  refine sr_pu rfl (fun _ => rd_pick_or (ev_t rfl) (ev_u rfl id)) ?_
  refine sr_pu rfl (fun _ => rd_move (ev_t rfl)) ?_
  refine sr_pug rfl rfl rfl (fun _ => rd_field fo_api_Node_7 (ev_t rfl)) ?_
  refine sr_rdg rfl rfl rfl (rd_load one_int (ev_u rfl id) (fun _ => B2.at_ rfl)) ?_
  refine sr_pug rfl rfl rfl (fun _ => rd_field fo_api_Node_7 (ev_t rfl)) ?_
  refine sr_rdg rfl rfl rfl (rd_load one_int (ev_u rfl id) (fun _ => B3.at_ rfl)) ?_
  refine sr_pug rfl rfl rfl (fun _ => rd_ne (ev_u rfl id) (ev_u rfl id)) ?_
  refine sr_pu rfl (fun _ => rd_pick_or (ev_t rfl) (ev_u rfl id)) ?_
  refine sr_pu rfl (fun _ => rd_move (ev_t rfl)) ?_
  refine sr_pug rfl rfl rfl (fun _ => rd_field fo_api_Node_4 (ev_t rfl)) ?_
  refine sr_rdg rfl rfl rfl (rd_load one_sl_api_Node (ev_u rfl id) (fun _ => B2.at_ rfl)) ?_
  refine sr_pug rfl rfl rfl (fun _ => rd_len el_sl_api_Node (ev_u rfl id)) ?_
  refine sr_pug rfl rfl rfl (fun _ => rd_field fo_api_Node_4 (ev_t rfl)) ?_
  refine sr_rdg rfl rfl rfl (rd_load one_sl_api_Node (ev_u rfl id) (fun _ => B3.at_ rfl)) ?_
  refine sr_pug rfl rfl rfl (fun _ => rd_len el_sl_api_Node (ev_u rfl id)) ?_
  refine sr_pug rfl rfl rfl (fun _ => rd_ne (ev_u rfl id) (ev_u rfl id)) ?_
  refine sr_pu rfl (fun _ => rd_pick_or (ev_t rfl) (ev_u rfl id)) ?_
  refine sr_sub [(2, _, _), (3, _, _), (4, _, _), (61, _, _)] (sub_cons rfl (sub_cons rfl (sub_cons rfl (sub_cons rfl (sub_nil _))))) ?_
  refine sr_nil (hK3 _ _ ?_)
  refine sc_cond (ev_t rfl) (fun h1 => ?_) (fun h1 => ?_)
  · replace h1 : smLoc a b = false := by simpa using (smLoc_not a b).trans h1
    refine sc_seq fun K4 hK4 => ?_
    refine sc_text [3] ?_
    refine sr_pu rfl (fun _ => rd_assign ev_c) ?_
    refine sr_sub [(2, _, _), (3, _, _), (4, _, _)] (sub_cons rfl (sub_cons rfl (sub_cons rfl (sub_nil _)))) ?_
    refine sr_nil (hK4 _ _ ?_)
    refine sc_ret (t_ret1 rfl rfl ?_)
    rw [h1]; exact ⟨rfl, g⟩
  replace h1 : smLoc a b = true := by simpa using (smLoc_not a b).trans h1
  have hl := smLoc_len h1
  refine sc_skip (hK2 _ _ ?_)
  refine sc_sub [(2, _, _), (3, _, _), (4, _, _)] (sub_cons rfl (sub_cons rfl (sub_cons rfl (sub_nil _)))) ?_
  refine sc_seq fun K5 hK5 => ?_
  refine sc_seq fun K6 hK6 => ?_
  refine sc_text [3] ?_
  refine sr_pu rfl (fun _ => rd_assign ev_c) ?_
  refine sr_nil (hK6 _ _ ?_)
  refine sc_block ?_
  refine sc_loop2 (fun (i : Nat) u1 => (i ≤ a.kids.length ∧ ∀ j, j < i → smB (kidAt a j) (kidAt b j) = true) ∧ G w3 u1) [(2, True, _), (3, True, _)] (fun (i : Nat) => [(5, True, .int .i64 i)]) (fun (i : Nat) => a.kids.length - i) (0) ⟨⟨Nat.zero_le _, fun j hj => absurd hj (Nat.not_lt_zero j)⟩, G.refl _⟩ (sub_cons rfl (sub_cons rfl (sub_cons rfl (sub_nil _)))) ?_
  rintro i u1 ⟨hI1, gl1⟩
  have g := g.trans gl1
  replace B2 := B2.grow (gl1)
  replace B3 := B3.grow (gl1)
  refine sc_seq fun K7 hK7 => ?_
  refine sc_seq fun K8 hK8 => ?_
  refine sc_text [3, 3, 0, 3, 3] ?_
  refine sr_pu rfl (fun _ => rd_move (ev_t rfl)) ?_
  refine sr_pu rfl (fun _ => rd_field fo_api_Node_4 (ev_t rfl)) ?_
  refine sr_rd rfl (rd_load one_sl_api_Node (ev_t rfl) (fun _ => B2.at_ rfl)) ?_
  refine sr_pu rfl (fun _ => rd_len el_sl_api_Node (ev_t rfl)) ?_
  refine sr_pu rfl (fun _ => rd_lt (ev_t rfl) (ev_t rfl)) ?_
  refine sr_sub [(2, _, _), (3, _, _), (5, _, _), (66, _, _)] (sub_cons rfl (sub_cons rfl (sub_cons rfl (sub_cons rfl (sub_nil _))))) ?_
  refine sr_nil (hK8 _ _ ?_)
  refine sc_cond (ev_t rfl) (fun h2 => ?_) (fun h2 => ?_)
  · replace h2 : i < a.kids.length := by simp only [decide_eq_true_eq] at h2; omega
    obtain ⟨hpa, p1, c1, hcell1, hkid1⟩ := kd_opt hka0 h2
    obtain ⟨hpb, p2, c2, hcell2, hkid2⟩ := kd_opt hkb0 (i := i) (by omega)
    have hck := count_kidAt h2
    refine sc_skip (hK7 _ _ ?_)
    refine sc_sub [(2, _, _), (3, _, _), (5, _, _)] (sub_cons rfl (sub_cons rfl (sub_cons rfl (sub_nil _)))) ?_
    refine sc_seq fun K9 hK9 => ?_
    refine sc_block ?_
    refine sc_seq fun K10 hK10 => ?_
    refine sc_draw [3, 0, 3, 3, 0, 3, 0, 3, 3, 0, 1, 3] [true, true, true, true, true, true, true, true, true, true, true, true] [0, 1, 0, 7, 15, 0, 32, 0, 224, 480, 1023, 2047] mix (by kernel_rfl) ?_
    have g := g.trans (G.drew _)
    try have gl1 := gl1.trans (G.drew _)
    replace B2 := B2.grow (G.drew _)
    replace B3 := B3.grow (G.drew _)
    refine sr_pu rfl (fun _ => rd_field fo_api_Node_4 (ev_t rfl)) ?_
    refine sr_rd rfl (rd_load one_sl_api_Node (ev_t rfl) (fun _ => B2.at_ rfl)) ?_
    refine sr_pu rfl (fun _ => rd_move (ev_t rfl)) ?_
    refine sr_pu rfl (fun _ => rd_idxq el_sl_api_Node (ev_t rfl) (ev_t rfl) (fun _ => by omega) (fun _ => hpa)) ?_
    refine sr_rd rfl (rd_loads agg_api_Node (ev_t rfl) rfl (fun _ => hcell1.grow g)) ?_
    refine sr_pu rfl (fun _ => rd_field fo_api_Node_4 (ev_t rfl)) ?_
    refine sr_rd rfl (rd_load one_sl_api_Node (ev_t rfl) (fun _ => B3.at_ rfl)) ?_
    refine sr_pu rfl (fun _ => rd_move (ev_t rfl)) ?_
    refine sr_pu rfl (fun _ => rd_idxq el_sl_api_Node (ev_t rfl) (ev_t rfl) (fun _ => by omega) (fun _ => hpb)) ?_
    refine sr_rd rfl (rd_loads agg_api_Node (ev_t rfl) rfl (fun _ => hcell2.grow g)) ?_
    refine sr_pure rfl (rc_call go_r03_Same ev_f (args_cons (ev_t rfl) (args_cons (ev_t rfl) (args_nil))) rfl) (ih _ (kidAt_eq h2 ▸ List.getElem_mem h2) _ D _ _ D' _ (hkid1.grow g) (hkid2.grow g) (by omega)) (fun w79 g79 => ?_)
    have g := g.trans (g79)
    try have gl1 := gl1.trans (g79)
    replace B2 := B2.grow (g79)
    replace B3 := B3.grow (g79)
    refine sr_pu rfl (fun _ => rd_not (ev_t rfl)) ?_
    refine sr_sub [(2, _, _), (3, _, _), (5, _, _), (80, _, _)] (sub_cons rfl (sub_cons rfl (sub_cons rfl (sub_cons rfl (sub_nil _))))) ?_
    refine sr_nil (hK10 _ _ ?_)
    refine sc_cond (ev_t rfl) (fun h3 => ?_) (fun h3 => ?_)
    · (try simp only [bsimp] at h3)
      refine sc_seq fun K11 hK11 => ?_
      refine sc_text [3] ?_
      refine sr_pu rfl (fun _ => rd_assign ev_c) ?_
      refine sr_sub [(2, _, _), (3, _, _), (4, _, _), (5, _, _)] (sub_cons rfl (sub_cons rfl (sub_cons rfl (sub_cons rfl (sub_nil _))))) ?_
      refine sr_nil (hK11 _ _ ?_)
      refine sc_ret (t_ret1 rfl rfl ?_)
      refine ⟨congrArg Value.bool ?_, g⟩
      rw [h1, Bool.true_and, eq_comm, List.all_eq_false]
      exact ⟨i, List.mem_range.2 h2, by simpa using h3⟩
    (try simp only [bsimp] at h3)
    refine sc_skip (hK9 _ _ ?_)
    refine sc_sub [(2, _, _), (3, _, _), (5, _, _)] (sub_cons rfl (sub_cons rfl (sub_cons rfl (sub_nil _)))) ?_
    refine sc_text [3, 3, 3] ?_
    refine sr_pu rfl (fun _ => rd_move (ev_t rfl)) ?_
    refine sr_pu rfl (fun _ => rd_add (ev_t rfl) ev_c (fun _ => by omega)) ?_
    refine sr_pu rfl (fun _ => rd_assign (ev_t rfl)) ?_
    refine sr_sub [(5, _, _), (2, _, _), (3, _, _)] (sub_cons rfl (sub_cons rfl (sub_cons rfl (sub_nil _)))) ?_
    refine sr_nil (fun a ha => ?_)
    refine ⟨i + 1, ha, ⟨⟨h2, fun j hj => ?_⟩, gl1⟩, by omega⟩
    by_cases e : j = i
    · subst e; simpa using h3
    · exact hI1.2 j (by omega)
  (try simp only [bsimp] at h2)
  refine sc_exit rfl (hK5 _ _ ?_)
  refine sc_sub [] (sub_nil _) ?_
  refine sc_seq fun K12 hK12 => ?_
  refine sc_text [3] ?_
  refine sr_pu rfl (fun _ => rd_assign ev_c) ?_
  refine sr_nil (hK12 _ _ ?_)
  refine sc_ret (t_ret1 rfl rfl ?_)
  refine ⟨congrArg Value.bool ?_, g⟩
  rw [h1, Bool.true_and, eq_comm, List.all_eq_true]
  intro j hj
  exact hI1.2 j (by have := List.mem_range.1 hj; simp only [decide_eq_false_iff_not] at h2; omega)
end Go.Rk
namespace Go.Rk
open Go Go.RowKit
set_option linter.unusedVariables false
def numS (t : Nd) : Int := bif countsB t then t.num else 0
def stripT (t : Nd) : Nd := para (fun t l => .mk t.kind t.text (numS t) 0 l ty0 0 0) t
theorem stripT_eq (t : Nd) : stripT t = .mk t.kind t.text (numS t) 0 (t.kids.map stripT) ty0 0 0 := para_eq _ t
def plainT (t : Nd) : Nd := para (fun t l => .mk t.kind t.text (numS t) t.pos l ty0 0 0) t
theorem strip_len (t : Nd) : (stripT t).kids.length = t.kids.length := by rw [stripT_eq, Nd.kids, List.length_map]
theorem strip_cells (t : Nd) (v : Value) : ndCells (stripT t) v = [.int .i64 t.kind, Str t.text, .int .i64 (numS t), .int .i64 0, v, .int .i64 0, Str [], .int .i64 0, .int .i64 0] := by rw [stripT_eq]; rfl
theorem strip_kids (t : Nd) : (stripT t).kids = t.kids.map stripT := by rw [stripT_eq]; rfl
theorem retNd_kd {t : Nd} {base : Nat} {v : Value} {w : World} (h : Kd w (fun b => base ≤ b) t.kids v) : RetNd t base (ndV t v) w := by
  obtain ⟨p, c, rfl, h2⟩ := h
  exact ⟨p, c, rfl, p, c, rfl, h2⟩
theorem rstrip_ok : ∀ (t : Nd) (v : Value) (D : Nat → Prop) (w : World), Kd w D t.kids v → t.kids.length ≤ 1000000 → count t ≤ 1000000 → Ret PP fn_r03_Strip #[ndV t v] w fun r w' => RetNd (stripT t) w.heap.size r w' ∧ G w w' := by
  refine Nd.ind fun t ih v D w hk hlen hc => ?_
  obtain ⟨p, c, rfl, hcap, hks⟩ := hk
  have g := G.refl w
  refine ret_of_sc (m := 34) func_r03_Strip rfl rfl [(0, True, _)] (sub_cons rfl (sub_nil _)) ?_
  refine sc_seq fun K1 hK1 => ?_
  refine sc_text [1, 1] ?_
  refine sr_box rfl (ev_t rfl) rfl ?_
  intro b1 w1 N1
  have l1 := N1.ge g
  have g := g.trans (N1.g)
  try have hO := hO.grow (N1.g)
  have B1 := N1.blk
  refine sr_alloc rfl ze_api_Node rfl ?_
  intro b2 w2 N2
  have x2_1 := N2.ne B1
  have l2 := N2.ge g
  have g := g.trans (N2.g)
  replace B1 := B1.grow (N2.g)
  try have hO := hO.grow (N2.g)
  have B2 := N2.blk
  refine sr_sub [(1, _, _), (2, _, _)] (sub_cons rfl (sub_cons rfl (sub_nil _))) ?_
  refine sr_nil (hK1 _ _ ?_)
  refine sc_seq fun K2 hK2 => ?_
  refine sc_text [3, 0, 3, 0, 3, 1, 2] ?_
  refine sr_pu rfl (fun _ => rd_field fo_api_Node_0 (ev_t rfl)) ?_
  refine sr_rd rfl (rd_load one_int (ev_t rfl) (fun _ => B1.at_ rfl)) ?_
  refine sr_pu rfl (fun _ => rd_field fo_api_Node_1 (ev_t rfl)) ?_
  refine sr_rd rfl (rd_load one_string (ev_t rfl) (fun _ => B1.at_ rfl)) ?_
  refine sr_pu rfl (fun _ => rd_build [_, _, _, _, _, _, _, _, _] ze_api_Node rfl pl_api_Node (parts_cons (ev_t rfl) (parts_cons (ev_t rfl) (parts_nil))) rfl) ?_
  refine sr_alloc rfl ze_api_Node rfl ?_
  intro b3 w3 N3
  have x3_1 := N3.ne B1
  have x3_2 := N3.ne B2
  have l3 := N3.ge g
  have g := g.trans (N3.g)
  replace B1 := B1.grow (N3.g)
  replace B2 := B2.grow (N3.g)
  try have hO := hO.grow (N3.g)
  have B3 := N3.blk
  refine sr_store_all rfl sz_api_Node (ev_t rfl) (ev_t rfl) rfl rfl B3 rfl rfl ?_
  intro wS1 hgS1 hzS1
  clear B3
  intro B3
  replace B1 := B1.keep hgS1 (by intro h; injection h with h; first | exact x3_1 h.symm | exact x1_3 h | omega)
  replace B2 := B2.keep hgS1 (by intro h; injection h with h; first | exact x3_2 h.symm | exact x2_3 h | omega)
  have g := g_only g hgS1 (by intro k hk; injection hk with hk; omega)
  refine sr_sub [(1, _, _), (2, _, _), (3, _, _)] (sub_cons rfl (sub_cons rfl (sub_cons rfl (sub_nil _)))) ?_
  refine sr_nil (hK2 _ _ ?_)
  refine sc_seq fun K3 hK3 => ?_
  refine sc_seq fun K4 hK4 => ?_
  refine sc_text [0, 1] ?_
  refine sr_rd rfl (rd_loads agg_api_Node (ev_t rfl) rfl (fun _ => B1.row)) ?_
  refine sr_pure rfl (rc_call go_r03_counts ev_f (args_cons (ev_t rfl) (args_nil)) rfl) (rcounts_ok t _ _ _) (fun w11 g11 => ?_)
  have g := g.trans (g11)
  replace B1 := B1.grow (g11)
  replace B2 := B2.grow (g11)
  replace B3 := B3.grow (g11)
  try have hO := hO.grow (g11)
  refine sr_sub [(1, _, _), (2, _, _), (3, _, _), (11, _, _)] (sub_cons rfl (sub_cons rfl (sub_cons rfl (sub_cons rfl (sub_nil _))))) ?_
  refine sr_nil (hK4 _ _ ?_)
  refine sc_cond (ev_t rfl) (fun h1 => ?_) (fun h1 => ?_)
  · replace h1 : countsB t = true := h1
    refine sc_text [3, 0, 3, 2] ?_
    refine sr_pu rfl (fun _ => rd_field fo_api_Node_2 (ev_t rfl)) ?_
    refine sr_rd rfl (rd_load one_int (ev_t rfl) (fun _ => B1.at_ rfl)) ?_
    refine sr_pu rfl (fun _ => rd_field fo_api_Node_2 (ev_t rfl)) ?_
    refine sr_store_one rfl sz_int (ev_t rfl) (ev_t rfl) rfl B3 rfl rfl ?_
    intro wS2 hgS2 hzS2
    clear B3
    intro B3
    replace B1 := B1.keep hgS2 (by intro h; injection h with h; first | exact x3_1 h.symm | exact x1_3 h | omega)
    replace B2 := B2.keep hgS2 (by intro h; injection h with h; first | exact x3_2 h.symm | exact x2_3 h | omega)
    have g := g_only g hgS2 (by intro k hk; injection hk with hk; omega)
    refine sr_sub [(1, _, _), (2, _, _), (3, _, _)] (sub_cons rfl (sub_cons rfl (sub_cons rfl (sub_nil _)))) ?_
    refine sr_nil (hK3 _ _ ?_)
    refine sc_seq fun K5 hK5 => ?_
    refine sc_seq fun K6 hK6 => ?_
    refine sc_text [3] ?_
    replace B3 : Blk wS2 b3 ty_api_Node (ndCells (stripT t) (.slice none 0 0)) := by
      have h := B3
      rw [strip_cells, numS, h1]; exact h
    refine sr_pu rfl (fun _ => rd_assign ev_c) ?_
    refine sr_nil (hK6 _ _ ?_)
    refine sc_block ?_
    refine sc_loop3 (fun (i : Nat) u1 => (i ≤ t.kids.length ∧ ∃ s, Blk u1 b3 ty_api_Node (ndCells (stripT t) s) ∧ OwnK ty_api_Node (Dx w.heap.size [b1, b2, b3]) w.heap.size u1 ((t.kids.take i).map stripT) s) ∧ G w u1) _ [(1, True, _), (2, True, _), (3, True, _)] (fun (i : Nat) => [(4, True, .int .i64 i)]) (fun (i : Nat) => t.kids.length - i) (0) ⟨⟨Nat.zero_le _, _, B3, ownK_nil _ _ _ _⟩, g⟩ (andE_mk (blkE B1) (andE_mk (blkE B2) (nilE_mk _))) (sub_cons rfl (sub_cons rfl (sub_cons rfl (sub_cons rfl (sub_nil _))))) ?_
    clear B1 B2 B3
    rintro i u1 ⟨hI1, gl1⟩ ⟨B1, B2, _⟩
    replace B1 : Blk _ _ _ _ := B1
    replace B2 : Blk _ _ _ _ := B2
    have g := gl1
    obtain ⟨hi, s, B3, hO⟩ := hI1
    obtain ⟨sa, sc, rfl⟩ := hO.slice
    refine sc_seq fun K7 hK7 => ?_
    refine sc_seq fun K8 hK8 => ?_
    refine sc_text [3, 3, 0, 3, 3] ?_
    refine sr_pu rfl (fun _ => rd_move (ev_t rfl)) ?_
    refine sr_pu rfl (fun _ => rd_field fo_api_Node_4 (ev_t rfl)) ?_
    refine sr_rd rfl (rd_load one_sl_api_Node (ev_t rfl) (fun _ => B1.at_ rfl)) ?_
    refine sr_pu rfl (fun _ => rd_len el_sl_api_Node (ev_t rfl)) ?_
    refine sr_pu rfl (fun _ => rd_lt (ev_t rfl) (ev_t rfl)) ?_
    refine sr_sub [(1, _, _), (2, _, _), (3, _, _), (4, _, _), (19, _, _)] (sub_cons rfl (sub_cons rfl (sub_cons rfl (sub_cons rfl (sub_cons rfl (sub_nil _)))))) ?_
    refine sr_nil (hK8 _ _ ?_)
    refine sc_cond (ev_t rfl) (fun h2 => ?_) (fun h2 => ?_)
    · replace h2 : i < t.kids.length := by simp only [decide_eq_true_eq] at h2; omega
      obtain ⟨b, o, rfl, hD, xs, hR, hX⟩ := hks (by omega)
      obtain ⟨p', c', hcell, hkid⟩ := kd_at hR hX h2
      have hck := count_kid h2
      have hkl := kids_le t.kids[i]
      have hu := g.size
      refine sc_skip (hK7 _ _ ?_)
      refine sc_sub [(1, _, _), (2, _, _), (3, _, _), (4, _, _)] (sub_cons rfl (sub_cons rfl (sub_cons rfl (sub_cons rfl (sub_nil _))))) ?_
      refine sc_seq fun K9 hK9 => ?_
      refine sc_block ?_
      refine sc_draw [3, 0, 3, 0, 3, 3, 0, 1, 1, 2, 3, 2] [true, true, true, true, true, true, true, true, true, true, true, true] [0, 1, 0, 4, 0, 28, 60, 124, 252, 511, 1023, 2047] mix (by kernel_rfl) ?_
      have g := g.trans (G.drew _)
      replace B1 := B1.grow (G.drew _)
      replace B2 := B2.grow (G.drew _)
      replace B3 := B3.grow (G.drew _)
      try have hO := hO.grow (G.drew _)
      have hB1lt := B1.lt
      have hB2lt := B2.lt
      have hB3lt := B3.lt
      have hOlt := hO.lt
      refine sr_pu rfl (fun _ => rd_field fo_api_Node_4 (ev_t rfl)) ?_
      refine sr_rd rfl (rd_load one_sl_api_Node (ev_t rfl) (fun _ => B3.at_ rfl)) ?_
      refine sr_pu rfl (fun _ => rd_field fo_api_Node_4 (ev_t rfl)) ?_
      refine sr_rd rfl (rd_load one_sl_api_Node (ev_t rfl) (fun _ => B1.at_ rfl)) ?_
      refine sr_pu rfl (fun _ => rd_move (ev_t rfl)) ?_
      refine sr_pu rfl (fun _ => rd_idx el_sl_api_Node (ev_t rfl) (ev_t rfl) (fun _ => by omega)) ?_
      refine sr_rd rfl (rd_loads agg_api_Node (ev_t rfl) rfl (fun _ => hcell.grow g)) ?_
      refine sr_call rfl (rc_call go_r03_Strip ev_f (args_cons (ev_t rfl) (args_nil)) rfl) (ih _ (List.getElem_mem h2) _ _ _ (hkid.grow g) (by omega) (by omega)) ?_
      rintro v29 w29 ⟨⟨p2, c2, rfl, hk2⟩, g29⟩
      refine ⟨fun _ => g29, ?_⟩
      have g := g.trans g29
      replace B1 := B1.grow (g29)
      replace B2 := B2.grow (g29)
      replace B3 := B3.grow (g29)
      try have hO := hO.grow (g29)
      refine sr_buildSlice [_, _, _, _, _, _, _, _, _] rfl el_sl_api_Node ze_api_Node (parts_cons (ev_t rfl) (parts_nil)) rfl rfl ?_
      intro b30 w30 N30
      have x30_1 := N30.ne B1
      have x30_2 := N30.ne B2
      have x30_3 := N30.ne B3
      have l30 := N30.ge g
      have g := g.trans (N30.g)
      replace B1 := B1.grow (N30.g)
      replace B2 := B2.grow (N30.g)
      replace B3 := B3.grow (N30.g)
      try have hO := hO.grow (N30.g)
      have B30 := N30.blk
      have hk2 := hk2.grow N30.g
      have hOo := hO
      refine sr_appendK rfl el_sl_api_Node ze_api_Node rfl (ev_t rfl) hO (ev_t rfl) rfl B30.row (krow_one (hk2.mono fun k hk _ => ⟨⟨by have : u1.heap.size ≤ k := hk; omega, by have : u1.heap.size ≤ k := hk; have := hB1lt; have := hB2lt; have := hB3lt; simp; omega⟩, fun he => by have := hOlt k he.symm; have : u1.heap.size ≤ k := hk; omega⟩)) (by simp; omega) (by have := g.size; omega) ⟨by have := g.size; omega, by have q1 := B1.lt; have q2 := B2.lt; have q3 := B3.lt; simp; omega⟩ ?_
      intro a31 c31 w31 hO hg31
      replace B1 := B1.keep hg31 (hOo.ne (by simp [Dx]))
      replace B2 := B2.keep hg31 (hOo.ne (by simp [Dx]))
      replace B3 := B3.keep hg31 (hOo.ne (by simp [Dx]))
      have g := g_only g hg31 (fun k hk => hOo.ge k hk)
      refine sr_pu rfl (fun _ => rd_field fo_api_Node_4 (ev_t rfl)) ?_
      refine sr_store_one rfl sz_sl_api_Node (ev_t rfl) (ev_t rfl) rfl B3 rfl rfl ?_
      intro wS3 hgS3 hzS3
      clear B3
      intro B3
      replace B1 := B1.keep hgS3 (by intro h; injection h with h; first | exact x3_1 h.symm | exact x1_3 h | omega)
      replace B2 := B2.keep hgS3 (by intro h; injection h with h; first | exact x3_2 h.symm | exact x2_3 h | omega)
      have g := g_only g hgS3 (by intro k hk; injection hk with hk; omega)
      have hO := hO.keep hgS3 (by simp [Dx])
      refine sr_sub [(1, _, _), (2, _, _), (3, _, _), (4, _, _)] (sub_cons rfl (sub_cons rfl (sub_cons rfl (sub_cons rfl (sub_nil _))))) ?_
      refine sr_nil (hK9 _ _ ?_)
      refine sc_text [3, 3, 3] ?_
      refine sr_pu rfl (fun _ => rd_move (ev_t rfl)) ?_
      refine sr_pu rfl (fun _ => rd_add (ev_t rfl) ev_c (fun _ => by omega)) ?_
      refine sr_pu rfl (fun _ => rd_assign (ev_t rfl)) ?_
      refine sr_sub [(4, _, _), (1, _, _), (2, _, _), (3, _, _)] (sub_cons rfl (sub_cons rfl (sub_cons rfl (sub_cons rfl (sub_nil _))))) ?_
      refine sr_nil (fun a ha => ?_)
      exact ⟨i + 1, ha, ⟨⟨h2, _, B3, by rw [take_step h2, List.map_append]; exact hO⟩, g⟩, (andE_mk (blkE B1) (andE_mk (blkE B2) (nilE_mk _))), by omega⟩
    replace h2 : i = t.kids.length := by simp only [decide_eq_false_iff_not] at h2; omega
    subst h2
    rw [List.take_length] at hO B3
    refine sc_exit rfl (hK5 _ _ ?_)
    refine sc_sub [(2, _, _), (3, _, _)] (sub_cons rfl (sub_cons rfl (sub_nil _))) ?_
    refine sc_seq fun K10 hK10 => ?_
    refine sc_text [0, 2] ?_
    refine sr_rd rfl (rd_loads agg_api_Node (ev_t rfl) rfl (fun _ => B3.row)) ?_
    refine sr_store_all rfl sz_api_Node (ev_t rfl) (ev_t rfl) rfl rfl B2 rfl rfl ?_
    intro wS4 hgS4 hzS4
    clear B2
    intro B2
    replace B1 := B1.keep hgS4 (by intro h; injection h with h; first | exact x2_1 h.symm | exact x1_2 h | omega)
    replace B3 := B3.keep hgS4 (by intro h; injection h with h; first | exact x2_3 h.symm | exact x3_2 h | omega)
    have g := g_only g hgS4 (by intro k hk; injection hk with hk; omega)
    have hO := hO.keep hgS4 (by simp [Dx])
    refine sr_nil (hK10 _ _ ?_)
    refine sc_ret (t_retv1 rfl (evr_c rfl agg_api_Node rfl (by first | exact B1.row | exact B2.row | exact B3.row) (evr_nil)) ?_)
    exact ⟨retNd_kd (by rw [strip_kids]; exact hO.kd fun b hb => hb.1), g⟩
  replace h1 : countsB t = false := h1
  refine sc_skip (hK3 _ _ ?_)
  refine sc_sub [(1, _, _), (2, _, _), (3, _, _)] (sub_cons rfl (sub_cons rfl (sub_cons rfl (sub_nil _)))) ?_
  refine sc_seq fun K5 hK5 => ?_
  refine sc_seq fun K6 hK6 => ?_
  refine sc_text [3] ?_
  replace B3 : Blk w11 b3 ty_api_Node (ndCells (stripT t) (.slice none 0 0)) := by
    have h := B3
    rw [strip_cells, numS, h1]; exact h
  refine sr_pu rfl (fun _ => rd_assign ev_c) ?_
  refine sr_nil (hK6 _ _ ?_)
  refine sc_block ?_
  refine sc_loop3 (fun (i : Nat) u1 => (i ≤ t.kids.length ∧ ∃ s, Blk u1 b3 ty_api_Node (ndCells (stripT t) s) ∧ OwnK ty_api_Node (Dx w.heap.size [b1, b2, b3]) w.heap.size u1 ((t.kids.take i).map stripT) s) ∧ G w u1) _ [(1, True, _), (2, True, _), (3, True, _)] (fun (i : Nat) => [(4, True, .int .i64 i)]) (fun (i : Nat) => t.kids.length - i) (0) ⟨⟨Nat.zero_le _, _, B3, ownK_nil _ _ _ _⟩, g⟩ (andE_mk (blkE B1) (andE_mk (blkE B2) (nilE_mk _))) (sub_cons rfl (sub_cons rfl (sub_cons rfl (sub_cons rfl (sub_nil _))))) ?_
  clear B1 B2 B3
  rintro i u1 ⟨hI1, gl1⟩ ⟨B1, B2, _⟩
  replace B1 : Blk _ _ _ _ := B1
  replace B2 : Blk _ _ _ _ := B2
  have g := gl1
  obtain ⟨hi, s, B3, hO⟩ := hI1
  obtain ⟨sa, sc, rfl⟩ := hO.slice
  refine sc_seq fun K7 hK7 => ?_
  refine sc_seq fun K8 hK8 => ?_
  refine sc_text [3, 3, 0, 3, 3] ?_
  refine sr_pu rfl (fun _ => rd_move (ev_t rfl)) ?_
  refine sr_pu rfl (fun _ => rd_field fo_api_Node_4 (ev_t rfl)) ?_
  refine sr_rd rfl (rd_load one_sl_api_Node (ev_t rfl) (fun _ => B1.at_ rfl)) ?_
  refine sr_pu rfl (fun _ => rd_len el_sl_api_Node (ev_t rfl)) ?_
  refine sr_pu rfl (fun _ => rd_lt (ev_t rfl) (ev_t rfl)) ?_
  refine sr_sub [(1, _, _), (2, _, _), (3, _, _), (4, _, _), (19, _, _)] (sub_cons rfl (sub_cons rfl (sub_cons rfl (sub_cons rfl (sub_cons rfl (sub_nil _)))))) ?_
  refine sr_nil (hK8 _ _ ?_)
  refine sc_cond (ev_t rfl) (fun h2 => ?_) (fun h2 => ?_)
  · replace h2 : i < t.kids.length := by simp only [decide_eq_true_eq] at h2; omega
    obtain ⟨b, o, rfl, hD, xs, hR, hX⟩ := hks (by omega)
    obtain ⟨p', c', hcell, hkid⟩ := kd_at hR hX h2
    have hck := count_kid h2
    have hkl := kids_le t.kids[i]
    have hu := g.size
    refine sc_skip (hK7 _ _ ?_)
    refine sc_sub [(1, _, _), (2, _, _), (3, _, _), (4, _, _)] (sub_cons rfl (sub_cons rfl (sub_cons rfl (sub_cons rfl (sub_nil _))))) ?_
    refine sc_seq fun K9 hK9 => ?_
    refine sc_block ?_
    refine sc_draw [3, 0, 3, 0, 3, 3, 0, 1, 1, 2, 3, 2] [true, true, true, true, true, true, true, true, true, true, true, true] [0, 1, 0, 4, 0, 28, 60, 124, 252, 511, 1023, 2047] mix (by kernel_rfl) ?_
    have g := g.trans (G.drew _)
    replace B1 := B1.grow (G.drew _)
    replace B2 := B2.grow (G.drew _)
    replace B3 := B3.grow (G.drew _)
    try have hO := hO.grow (G.drew _)
    have hB1lt := B1.lt
    have hB2lt := B2.lt
    have hB3lt := B3.lt
    have hOlt := hO.lt
    refine sr_pu rfl (fun _ => rd_field fo_api_Node_4 (ev_t rfl)) ?_
    refine sr_rd rfl (rd_load one_sl_api_Node (ev_t rfl) (fun _ => B3.at_ rfl)) ?_
    refine sr_pu rfl (fun _ => rd_field fo_api_Node_4 (ev_t rfl)) ?_
    refine sr_rd rfl (rd_load one_sl_api_Node (ev_t rfl) (fun _ => B1.at_ rfl)) ?_
    refine sr_pu rfl (fun _ => rd_move (ev_t rfl)) ?_
    refine sr_pu rfl (fun _ => rd_idx el_sl_api_Node (ev_t rfl) (ev_t rfl) (fun _ => by omega)) ?_
    refine sr_rd rfl (rd_loads agg_api_Node (ev_t rfl) rfl (fun _ => hcell.grow g)) ?_
    refine sr_call rfl (rc_call go_r03_Strip ev_f (args_cons (ev_t rfl) (args_nil)) rfl) (ih _ (List.getElem_mem h2) _ _ _ (hkid.grow g) (by omega) (by omega)) ?_
    rintro v29 w29 ⟨⟨p2, c2, rfl, hk2⟩, g29⟩
    refine ⟨fun _ => g29, ?_⟩
    have g := g.trans g29
    replace B1 := B1.grow (g29)
    replace B2 := B2.grow (g29)
    replace B3 := B3.grow (g29)
    try have hO := hO.grow (g29)
    refine sr_buildSlice [_, _, _, _, _, _, _, _, _] rfl el_sl_api_Node ze_api_Node (parts_cons (ev_t rfl) (parts_nil)) rfl rfl ?_
    intro b30 w30 N30
    have x30_1 := N30.ne B1
    have x30_2 := N30.ne B2
    have x30_3 := N30.ne B3
    have l30 := N30.ge g
    have g := g.trans (N30.g)
    replace B1 := B1.grow (N30.g)
    replace B2 := B2.grow (N30.g)
    replace B3 := B3.grow (N30.g)
    try have hO := hO.grow (N30.g)
    have B30 := N30.blk
    have hk2 := hk2.grow N30.g
    have hOo := hO
    refine sr_appendK rfl el_sl_api_Node ze_api_Node rfl (ev_t rfl) hO (ev_t rfl) rfl B30.row (krow_one (hk2.mono fun k hk _ => ⟨⟨by have : u1.heap.size ≤ k := hk; omega, by have : u1.heap.size ≤ k := hk; have := hB1lt; have := hB2lt; have := hB3lt; simp; omega⟩, fun he => by have := hOlt k he.symm; have : u1.heap.size ≤ k := hk; omega⟩)) (by simp; omega) (by have := g.size; omega) ⟨by have := g.size; omega, by have q1 := B1.lt; have q2 := B2.lt; have q3 := B3.lt; simp; omega⟩ ?_
    intro a31 c31 w31 hO hg31
    replace B1 := B1.keep hg31 (hOo.ne (by simp [Dx]))
    replace B2 := B2.keep hg31 (hOo.ne (by simp [Dx]))
    replace B3 := B3.keep hg31 (hOo.ne (by simp [Dx]))
    have g := g_only g hg31 (fun k hk => hOo.ge k hk)
    refine sr_pu rfl (fun _ => rd_field fo_api_Node_4 (ev_t rfl)) ?_
    refine sr_store_one rfl sz_sl_api_Node (ev_t rfl) (ev_t rfl) rfl B3 rfl rfl ?_
    intro wS2 hgS2 hzS2
    clear B3
    intro B3
    replace B1 := B1.keep hgS2 (by intro h; injection h with h; first | exact x3_1 h.symm | exact x1_3 h | omega)
    replace B2 := B2.keep hgS2 (by intro h; injection h with h; first | exact x3_2 h.symm | exact x2_3 h | omega)
    have g := g_only g hgS2 (by intro k hk; injection hk with hk; omega)
    have hO := hO.keep hgS2 (by simp [Dx])
    refine sr_sub [(1, _, _), (2, _, _), (3, _, _), (4, _, _)] (sub_cons rfl (sub_cons rfl (sub_cons rfl (sub_cons rfl (sub_nil _))))) ?_
    refine sr_nil (hK9 _ _ ?_)
    refine sc_text [3, 3, 3] ?_
    refine sr_pu rfl (fun _ => rd_move (ev_t rfl)) ?_
    refine sr_pu rfl (fun _ => rd_add (ev_t rfl) ev_c (fun _ => by omega)) ?_
    refine sr_pu rfl (fun _ => rd_assign (ev_t rfl)) ?_
    refine sr_sub [(4, _, _), (1, _, _), (2, _, _), (3, _, _)] (sub_cons rfl (sub_cons rfl (sub_cons rfl (sub_cons rfl (sub_nil _))))) ?_
    refine sr_nil (fun a ha => ?_)
    exact ⟨i + 1, ha, ⟨⟨h2, _, B3, by rw [take_step h2, List.map_append]; exact hO⟩, g⟩, (andE_mk (blkE B1) (andE_mk (blkE B2) (nilE_mk _))), by omega⟩
  replace h2 : i = t.kids.length := by simp only [decide_eq_false_iff_not] at h2; omega
  subst h2
  rw [List.take_length] at hO B3
  refine sc_exit rfl (hK5 _ _ ?_)
  refine sc_sub [(2, _, _), (3, _, _)] (sub_cons rfl (sub_cons rfl (sub_nil _))) ?_
  refine sc_seq fun K10 hK10 => ?_
  refine sc_text [0, 2] ?_
  refine sr_rd rfl (rd_loads agg_api_Node (ev_t rfl) rfl (fun _ => B3.row)) ?_
  refine sr_store_all rfl sz_api_Node (ev_t rfl) (ev_t rfl) rfl rfl B2 rfl rfl ?_
  intro wS3 hgS3 hzS3
  clear B2
  intro B2
  replace B1 := B1.keep hgS3 (by intro h; injection h with h; first | exact x2_1 h.symm | exact x1_2 h | omega)
  replace B3 := B3.keep hgS3 (by intro h; injection h with h; first | exact x2_3 h.symm | exact x3_2 h | omega)
  have g := g_only g hgS3 (by intro k hk; injection hk with hk; omega)
  have hO := hO.keep hgS3 (by simp [Dx])
  refine sr_nil (hK10 _ _ ?_)
  refine sc_ret (t_retv1 rfl (evr_c rfl agg_api_Node rfl (by first | exact B1.row | exact B2.row | exact B3.row) (evr_nil)) ?_)
  exact ⟨retNd_kd (by rw [strip_kids]; exact hO.kd fun b hb => hb.1), g⟩
end Go.Rk
namespace Go.Rk
open Go Go.RowKit
set_option linter.unusedVariables false
theorem name_ne {s : List UInt8} (h : nameB s = true) : s ≠ [] := by
  intro e; subst e; revert h; decide
theorem all_kidAt {t : Nd} {f : Nd → Bool} (h : t.kids.all f = true) {i : Nat} (hi : i < t.kids.length) : f (kidAt t i) = true := by
  rw [kidAt_eq hi]; exact List.all_eq_true.1 h _ (List.getElem_mem hi)
theorem bin_ne {s : List UInt8} (h : anyS binOps s = true) : s ≠ [] := by
  intro e; subst e; revert h; decide
theorem typ_ne {t : Nd} (h : isTypeB t = true) : t.text ≠ [] := by
  unfold isTypeB at h
  cases h1 : decide (t.kind = 8)
  · rw [h1] at h
    cases h2 : decide (t.kind = 7)
    · rw [h2] at h; cases h
    · rw [h2] at h
      have h : (typeNameB t.text && leafB t) = true := h
      intro e
      rw [e] at h
      revert h
      rw [show typeNameB [] = false by decide]; simp
  · rw [h1] at h
    have h : (nameB t.text && leafB t) = true := h
    exact name_ne (Bool.and_eq_true_iff.1 h).1
theorem none_of {t : Nd} (h : noneB t = true) : t.kind = 9 ∧ t.text = [] ∧ t.kids.length = 0 := by
  unfold noneB at h
  simp only [Bool.and_eq_true, decide_eq_true_eq] at h
  exact ⟨h.1.1, h.1.2, by simpa [lenK] using h.2⟩
theorem kind_e {t : Nd} {k : Int} (h : kindB t k = true) : t.kind = k ∧ exprB t = true := by
  unfold kindB at h
  simp only [Bool.and_eq_true, decide_eq_true_eq] at h
  exact h
theorem block_kind {t : Nd} (h : blockB t = true) : t.kind = 10 := of_decide_eq_true (Bool.and_eq_true_iff.1 h).1
theorem sh24 {t : Nd} (h : t.kind = 24) (hx : exprB t = true) : 0 ≤ t.num := by
  rw [← refExpr_eq] at hx; unfold refExpr at hx; rw [h] at hx
  have hx : ((plainB t && lenK t 0) && decide (0 ≤ t.num)) = true := hx
  simp only [Bool.and_eq_true, Bool.or_eq_true, decide_eq_true_eq] at hx
  exact hx.2
theorem sh27 {t : Nd} (h : t.kind = 27) (hx : exprB t = true) : t.text ≠ [] := by
  rw [← refExpr_eq] at hx; unfold refExpr at hx; rw [h] at hx
  have hx : (nameB t.text && lenK t 0) = true := hx
  simp only [Bool.and_eq_true, Bool.or_eq_true, decide_eq_true_eq] at hx
  exact name_ne hx.1
theorem sh34 {t : Nd} (h : t.kind = 34) (hx : exprB t = true) : t.text ≠ [] := by
  rw [← refExpr_eq] at hx; unfold refExpr at hx; rw [h] at hx
  have hx : (nameB t.text && lenK t 0) = true := hx
  simp only [Bool.and_eq_true, Bool.or_eq_true, decide_eq_true_eq] at hx
  exact name_ne hx.1
theorem sh28 {t : Nd} (h : t.kind = 28) (hx : exprB t = true) : t.text ≠ [] ∧ t.kids.length = 1 ∧ exprB (kidAt t 0) = true := by
  rw [← refExpr_eq] at hx; unfold refExpr at hx; rw [h] at hx
  have hx : ((nameB t.text && lenK t 1) && exprB (kidAt t 0)) = true := hx
  simp only [Bool.and_eq_true, Bool.or_eq_true, decide_eq_true_eq] at hx
  exact ⟨name_ne hx.1.1, by (have hz := hx.1.2; first | (unfold lenK at hz; simp at hz; omega) | (simp at hz; omega)), hx.2⟩
theorem sh29 {t : Nd} (h : t.kind = 29) (hx : exprB t = true) : t.kids.length = 2 ∧ exprB (kidAt t 0) = true ∧ exprB (kidAt t 1) = true := by
  rw [← refExpr_eq] at hx; unfold refExpr at hx; rw [h] at hx
  have hx : ((plainB t && lenK t 2) && t.kids.all exprB) = true := hx
  simp only [Bool.and_eq_true, Bool.or_eq_true, decide_eq_true_eq] at hx
  exact ⟨by (have hz := hx.1.2; first | (unfold lenK at hz; simp at hz; omega) | (simp at hz; omega)), all_kidAt hx.2 (by (have hz := hx.1.2; first | (unfold lenK at hz; simp at hz; omega) | (simp at hz; omega))), all_kidAt hx.2 (by (have hz := hx.1.2; first | (unfold lenK at hz; simp at hz; omega) | (simp at hz; omega)))⟩
theorem sh30 {t : Nd} (h : t.kind = 30) (hx : exprB t = true) : 1 ≤ t.kids.length ∧ t.kids.all exprB = true := by
  rw [← refExpr_eq] at hx; unfold refExpr at hx; rw [h] at hx
  have hx : ((plainB t && decide (1 ≤ (t.kids.length : Int))) && t.kids.all exprB) = true := hx
  simp only [Bool.and_eq_true, Bool.or_eq_true, decide_eq_true_eq] at hx
  exact ⟨by have := hx.1.2; omega, hx.2⟩
theorem sh31 {t : Nd} (h : t.kind = 31) (hx : exprB t = true) : t.text ≠ [] ∧ t.kids.length = 1 ∧ exprB (kidAt t 0) = true := by
  rw [← refExpr_eq] at hx; unfold refExpr at hx; rw [h] at hx
  have hx : (((decide (t.text = [45]) || decide (t.text = [33])) && lenK t 1) && exprB (kidAt t 0)) = true := hx
  simp only [Bool.and_eq_true, Bool.or_eq_true, decide_eq_true_eq] at hx
  exact ⟨by rcases hx.1.1 with e | e <;> rw [e] <;> simp, by (have hz := hx.1.2; first | (unfold lenK at hz; simp at hz; omega) | (simp at hz; omega)), hx.2⟩
theorem sh32 {t : Nd} (h : t.kind = 32) (hx : exprB t = true) : t.text ≠ [] ∧ t.kids.length = 2 ∧ exprB (kidAt t 0) = true ∧ exprB (kidAt t 1) = true := by
  rw [← refExpr_eq] at hx; unfold refExpr at hx; rw [h] at hx
  have hx : ((anyS binOps t.text && lenK t 2) && t.kids.all exprB) = true := hx
  simp only [Bool.and_eq_true, Bool.or_eq_true, decide_eq_true_eq] at hx
  exact ⟨bin_ne hx.1.1, by (have hz := hx.1.2; first | (unfold lenK at hz; simp at hz; omega) | (simp at hz; omega)), all_kidAt hx.2 (by (have hz := hx.1.2; first | (unfold lenK at hz; simp at hz; omega) | (simp at hz; omega))), all_kidAt hx.2 (by (have hz := hx.1.2; first | (unfold lenK at hz; simp at hz; omega) | (simp at hz; omega)))⟩
theorem sh33 {t : Nd} (h : t.kind = 33) (hx : exprB t = true) : t.kids.length = 1 ∧ exprB (kidAt t 0) = true := by
  rw [← refExpr_eq] at hx; unfold refExpr at hx; rw [h] at hx
  have hx : ((plainB t && lenK t 1) && exprB (kidAt t 0)) = true := hx
  simp only [Bool.and_eq_true, Bool.or_eq_true, decide_eq_true_eq] at hx
  exact ⟨by (have hz := hx.1.2; first | (unfold lenK at hz; simp at hz; omega) | (simp at hz; omega)), hx.2⟩
theorem sh35 {t : Nd} (h : t.kind = 35) (hx : exprB t = true) : t.kids.length = 1 ∧ exprB (kidAt t 0) = true := by
  rw [← refExpr_eq] at hx; unfold refExpr at hx; rw [h] at hx
  have hx : ((plainB t && lenK t 1) && exprB (kidAt t 0)) = true := hx
  simp only [Bool.and_eq_true, Bool.or_eq_true, decide_eq_true_eq] at hx
  exact ⟨by (have hz := hx.1.2; first | (unfold lenK at hz; simp at hz; omega) | (simp at hz; omega)), hx.2⟩
theorem sh36 {t : Nd} (h : t.kind = 36) (hx : exprB t = true) : t.kids.length = 1 ∧ exprB (kidAt t 0) = true := by
  rw [← refExpr_eq] at hx; unfold refExpr at hx; rw [h] at hx
  have hx : ((plainB t && lenK t 1) && exprB (kidAt t 0)) = true := hx
  simp only [Bool.and_eq_true, Bool.or_eq_true, decide_eq_true_eq] at hx
  exact ⟨by (have hz := hx.1.2; first | (unfold lenK at hz; simp at hz; omega) | (simp at hz; omega)), hx.2⟩
theorem sh37 {t : Nd} (h : t.kind = 37) (hx : exprB t = true) : t.kids.length = 1 ∧ exprB (kidAt t 0) = true := by
  rw [← refExpr_eq] at hx; unfold refExpr at hx; rw [h] at hx
  have hx : ((plainB t && lenK t 1) && exprB (kidAt t 0)) = true := hx
  simp only [Bool.and_eq_true, Bool.or_eq_true, decide_eq_true_eq] at hx
  exact ⟨by (have hz := hx.1.2; first | (unfold lenK at hz; simp at hz; omega) | (simp at hz; omega)), hx.2⟩
theorem sh38 {t : Nd} (h : t.kind = 38) (hx : exprB t = true) : t.kids.length = 1 ∧ blockB (kidAt t 0) = true := by
  rw [← refExpr_eq] at hx; unfold refExpr at hx; rw [h] at hx
  have hx : ((plainB t && lenK t 1) && blockB (kidAt t 0)) = true := hx
  simp only [Bool.and_eq_true, Bool.or_eq_true, decide_eq_true_eq] at hx
  exact ⟨by (have hz := hx.1.2; first | (unfold lenK at hz; simp at hz; omega) | (simp at hz; omega)), hx.2⟩
theorem sh11 {t : Nd} (h : t.kind = 11) (hx : stmtB t = true) : t.text ≠ [] ∧ t.kids.length = 1 ∧ exprB (kidAt t 0) = true := by
  rw [← refStmt_eq] at hx; unfold refStmt at hx; rw [h] at hx
  have hx : ((nameB t.text && lenK t 1) && exprB (kidAt t 0)) = true := hx
  simp only [Bool.and_eq_true, Bool.or_eq_true, decide_eq_true_eq] at hx
  exact ⟨name_ne hx.1.1, by (have hz := hx.1.2; first | (unfold lenK at hz; simp at hz; omega) | (simp at hz; omega)), hx.2⟩
theorem sh12 {t : Nd} (h : t.kind = 12) (hx : stmtB t = true) : t.kids.length = 2 ∧ exprB (kidAt t 0) = true ∧ exprB (kidAt t 1) = true := by
  rw [← refStmt_eq] at hx; unfold refStmt at hx; rw [h] at hx
  have hx : ((plainB t && lenK t 2) && t.kids.all exprB) = true := hx
  simp only [Bool.and_eq_true, Bool.or_eq_true, decide_eq_true_eq] at hx
  exact ⟨by (have hz := hx.1.2; first | (unfold lenK at hz; simp at hz; omega) | (simp at hz; omega)), all_kidAt hx.2 (by (have hz := hx.1.2; first | (unfold lenK at hz; simp at hz; omega) | (simp at hz; omega))), all_kidAt hx.2 (by (have hz := hx.1.2; first | (unfold lenK at hz; simp at hz; omega) | (simp at hz; omega)))⟩
theorem sh16 {t : Nd} (h : t.kind = 16) (hx : stmtB t = true) : t.kids.length = 2 ∧ exprB (kidAt t 0) = true ∧ exprB (kidAt t 1) = true := by
  rw [← refStmt_eq] at hx; unfold refStmt at hx; rw [h] at hx
  have hx : ((plainB t && lenK t 2) && t.kids.all exprB) = true := hx
  simp only [Bool.and_eq_true, Bool.or_eq_true, decide_eq_true_eq] at hx
  exact ⟨by (have hz := hx.1.2; first | (unfold lenK at hz; simp at hz; omega) | (simp at hz; omega)), all_kidAt hx.2 (by (have hz := hx.1.2; first | (unfold lenK at hz; simp at hz; omega) | (simp at hz; omega))), all_kidAt hx.2 (by (have hz := hx.1.2; first | (unfold lenK at hz; simp at hz; omega) | (simp at hz; omega)))⟩
theorem sh13 {t : Nd} (h : t.kind = 13) (hx : stmtB t = true) : t.kids.length = 1 ∧ exprB (kidAt t 0) = true := by
  rw [← refStmt_eq] at hx; unfold refStmt at hx; rw [h] at hx
  have hx : ((plainB t && lenK t 1) && (kindB (kidAt t 0) 30 || kindB (kidAt t 0) 33)) = true := hx
  simp only [Bool.and_eq_true, Bool.or_eq_true, decide_eq_true_eq] at hx
  exact ⟨by (have hz := hx.1.2; first | (unfold lenK at hz; simp at hz; omega) | (simp at hz; omega)), hx.2.elim (fun h => (kind_e h).2) (fun h => (kind_e h).2)⟩
theorem sh14 {t : Nd} (h : t.kind = 14) (hx : stmtB t = true) : t.kids.length = 1 ∧ exprB (kidAt t 0) = true := by
  rw [← refStmt_eq] at hx; unfold refStmt at hx; rw [h] at hx
  have hx : ((plainB t && lenK t 1) && kindB (kidAt t 0) 30) = true := hx
  simp only [Bool.and_eq_true, Bool.or_eq_true, decide_eq_true_eq] at hx
  exact ⟨by (have hz := hx.1.2; first | (unfold lenK at hz; simp at hz; omega) | (simp at hz; omega)), (kind_e hx.2).2⟩
theorem sh15 {t : Nd} (h : t.kind = 15) (hx : stmtB t = true) : t.kids.length = 1 ∧ exprB (kidAt t 0) = true := by
  rw [← refStmt_eq] at hx; unfold refStmt at hx; rw [h] at hx
  have hx : ((plainB t && lenK t 1) && kindB (kidAt t 0) 30) = true := hx
  simp only [Bool.and_eq_true, Bool.or_eq_true, decide_eq_true_eq] at hx
  exact ⟨by (have hz := hx.1.2; first | (unfold lenK at hz; simp at hz; omega) | (simp at hz; omega)), (kind_e hx.2).2⟩
theorem sh17 {t : Nd} (h : t.kind = 17) (hx : stmtB t = true) : t.kids.length = 1 ∧ exprB (kidAt t 0) = true := by
  rw [← refStmt_eq] at hx; unfold refStmt at hx; rw [h] at hx
  have hx : ((plainB t && lenK t 1) && exprB (kidAt t 0)) = true := hx
  simp only [Bool.and_eq_true, Bool.or_eq_true, decide_eq_true_eq] at hx
  exact ⟨by (have hz := hx.1.2; first | (unfold lenK at hz; simp at hz; omega) | (simp at hz; omega)), hx.2⟩
theorem sh21 {t : Nd} (h : t.kind = 21) (hx : stmtB t = true) : t.kids.length = 1 ∧ exprB (kidAt t 0) = true := by
  rw [← refStmt_eq] at hx; unfold refStmt at hx; rw [h] at hx
  have hx : ((plainB t && lenK t 1) && exprB (kidAt t 0)) = true := hx
  simp only [Bool.and_eq_true, Bool.or_eq_true, decide_eq_true_eq] at hx
  exact ⟨by (have hz := hx.1.2; first | (unfold lenK at hz; simp at hz; omega) | (simp at hz; omega)), hx.2⟩
theorem sh20 {t : Nd} (h : t.kind = 20) (hx : stmtB t = true) : t.kids.length ≤ 1 ∧ t.kids.all exprB = true := by
  rw [← refStmt_eq] at hx; unfold refStmt at hx; rw [h] at hx
  have hx : ((plainB t && decide ((t.kids.length : Int) ≤ 1)) && t.kids.all exprB) = true := hx
  simp only [Bool.and_eq_true, Bool.or_eq_true, decide_eq_true_eq] at hx
  exact ⟨by have := hx.1.2; omega, hx.2⟩
theorem sh19 {t : Nd} (h : t.kind = 19) (hx : stmtB t = true) : t.kids.length = 2 ∧ (noneB (kidAt t 0) = true ∨ exprB (kidAt t 0) = true) ∧ blockB (kidAt t 1) = true := by
  rw [← refStmt_eq] at hx; unfold refStmt at hx; rw [h] at hx
  have hx : (((plainB t && lenK t 2) && (noneB (kidAt t 0) || exprB (kidAt t 0))) && blockB (kidAt t 1)) = true := hx
  simp only [Bool.and_eq_true, Bool.or_eq_true, decide_eq_true_eq] at hx
  exact ⟨by (have hz := hx.1.1.2; first | (unfold lenK at hz; simp at hz; omega) | (simp at hz; omega)), hx.1.2, hx.2⟩
theorem sh6s {t : Nd} (h : t.kind = 6) (hx : stmtB t = true) : varB t = true := by
  rw [← refStmt_eq] at hx; unfold refStmt at hx; rw [h] at hx
  have hx : (varB t) = true := hx
  exact hx
theorem sh10s {t : Nd} (h : t.kind = 10) (hx : stmtB t = true) : blockB t = true := by
  rw [← refStmt_eq] at hx; unfold refStmt at hx; rw [h] at hx
  have hx : (blockB t) = true := hx
  exact hx
theorem sh18s {t : Nd} (h : t.kind = 18) (hx : stmtB t = true) : ifB t = true := by
  rw [← refStmt_eq] at hx; unfold refStmt at hx; rw [h] at hx
  have hx : (ifB t) = true := hx
  exact hx
theorem sh10 {t : Nd} (hx : blockB t = true) : t.kids.all stmtB = true := by
  rw [← refBlock_eq, refBlock] at hx
  cases h : (!decide (t.kind = 10) || !plainB t)
  · rw [h] at hx; exact hx
  · rw [h] at hx; cases hx
theorem sh18 {t : Nd} (hx : ifB t = true) : t.kids.length = 3 ∧ exprB (kidAt t 0) = true ∧ blockB (kidAt t 1) = true ∧ (blockB (kidAt t 2) = true ∨ ifB (kidAt t 2) = true ∨ noneB (kidAt t 2) = true) := by
  rw [← refIf_eq, refIf] at hx
  cases h : ((!decide (t.kind = 18) || !plainB t) || !lenK t 3)
  · rw [h, cond_false] at hx
    simp only [Bool.and_eq_true, Bool.or_eq_true] at hx
    simp only [Bool.or_eq_false_iff, Bool.not_eq_false'] at h
    exact ⟨by (have hz := h.2; first | (unfold lenK at hz; simp at hz; omega) | (simp at hz; omega)), hx.1.1, hx.1.2, hx.2.elim (fun h => h.elim .inl fun h => .inr (.inl h)) fun h => .inr (.inr h)⟩
  · rw [h] at hx; cases hx
theorem sh6 {t : Nd} (hx : varB t = true) : t.text ≠ [] ∧ t.kids.length = 2 ∧ isTypeB (kidAt t 0) = true ∧ (noneB (kidAt t 1) = true ∨ exprB (kidAt t 1) = true) := by
  rw [← refVar_eq, refVar] at hx
  simp only [Bool.and_eq_true, Bool.or_eq_true] at hx
  exact ⟨name_ne hx.1.1.1.2, by (have hz := hx.1.1.2; first | (unfold lenK at hz; simp at hz; omega) | (simp at hz; omega)), hx.1.2, hx.2⟩
theorem sh22 {t : Nd} (h : t.kind = 22) (hx : stmtB t = true) : t.kids.all caseB = true := by
  have hp : permF t = true := (Bool.and_eq_true_iff.1 hx).2
  rw [← refSelect_eq h] at hp
  exact (Bool.and_eq_true_iff.1 hp).1
theorem sh23 {t : Nd} (hx : caseB t = true) : t.kind = 23 ∧ t.kids.length = 2 ∧ commF (kidAt t 0) = true ∧ blockB (kidAt t 1) = true := by
  unfold caseB at hx
  simp only [Bool.and_eq_true, decide_eq_true_eq] at hx
  exact ⟨hx.1.1.1.1, by (have hz := hx.1.1.2; first | (unfold lenK at hz; simp at hz; omega) | (simp at hz; omega)), hx.1.2, hx.2⟩
theorem sh3 {t : Nd} (hx : fieldB t = true) : t.kind = 3 ∧ t.text ≠ [] ∧ t.kids.length = 1 ∧ isTypeB (kidAt t 0) = true := by
  have h := congrArg not hx
  rw [fieldB_not] at h
  simp only [Bool.or_eq_false_iff, Bool.not_eq_false', Bool.not_true, decide_eq_true_eq] at h
  exact ⟨h.1.1.1, name_ne h.1.1.2, by (have hz := h.1.2; first | (unfold lenK at hz; simp at hz; omega) | (simp at hz; omega)), h.2⟩
theorem comm_none {t : Nd} (h : commF t = true) : t.kind = 9 ∨ stmtB t = true := by
  rw [← refComm_eq, refComm] at h
  cases h1 : anyK [16, 9] t.kind
  · rw [h1, cond_false] at h
    cases h2 : decide (t.kind = 13)
    · rw [h2, cond_false] at h
      cases h3 : decide (t.kind = 12)
      · rw [h3, cond_false] at h
        cases h4 : decide (t.kind = 11)
        · rw [h4] at h; cases h
        · rw [h4] at h; exact .inr (Bool.and_eq_true_iff.1 h).1
      · rw [h3] at h; exact .inr (Bool.and_eq_true_iff.1 h).1
    · rw [h2] at h; exact .inr (Bool.and_eq_true_iff.1 h).1
  · rw [h1, cond_true, Bool.or_eq_true] at h
    exact h.elim .inr fun h => .inl (none_of h).1
end Go.Rk
namespace Go.Rk
open Go Go.RowKit
set_option linter.unusedVariables false
def tabsL (k : Nat) : List UInt8 := List.replicate k 9
/-- Decimal digits, at most f of them. -/
def digF : Nat → Nat → List UInt8
  | 0, _ => []
  | f + 1, n => bif Nat.blt n 10 then [UInt8.ofNat (48 + n)] else digF f (n / 10) ++ [UInt8.ofNat (48 + n % 10)]
def digL (n : Nat) : List UInt8 := digF 20 n
theorem digF_dec : ∀ (f n : Nat), n < 10 ^ (f + 1) → digF (f + 1) n = Lib.decDigits n := by
  intro f
  induction f with
  | zero =>
    intro n h
    have h1 : n < 10 := by simpa using h
    rw [Lib.decDigits, digF, dif_pos h1, show Nat.blt n 10 = true from Nat.blt_eq.mpr h1]; rfl
  | succ f ih =>
    intro n h
    rw [Lib.decDigits, digF]
    by_cases h1 : n < 10
    · rw [dif_pos h1, show Nat.blt n 10 = true from Nat.blt_eq.mpr h1]; rfl
    · rw [dif_neg h1, show Nat.blt n 10 = false by rw [← Bool.not_eq_true]; intro e; exact h1 (Nat.blt_eq.mp e)]
      rw [ih (n / 10) (by rw [Nat.pow_succ] at h; omega)]; rfl
theorem digL_dec {n : Nat} (h : n ≤ 9223372036854775807) : digL n = Lib.decDigits n := digF_dec 19 n (Nat.lt_of_le_of_lt h (by decide))
structure Tx where
  ex : Nat → List UInt8
  st : Nat → List UInt8
  ls : Nat → List UInt8
  cs : Nat → List UInt8
def tx0 : Tx := ⟨fun _ => [], fun _ => [], fun _ => [], fun _ => []⟩
def blkX (x : Tx) (k : Nat) : List UInt8 := (([123, 10] ++ x.ls (k + 1)) ++ tabsL k) ++ [125]
def parX (q : Bool) (s : List UInt8) : List UInt8 := bif q then ([40] ++ s) ++ [41] else s
def joinX : List (List UInt8) → List UInt8
  | [] => []
  | s :: r => s ++ r.flatMap fun u => [44, 32] ++ u
def typeX (t : Nd) : List UInt8 := bif decide (t.kind = 8) then [42] ++ t.text else bif decide (t.text = [99, 104, 97, 110]) then [99, 104, 97, 110, 32, 105, 110, 116] else bif decide (t.text = [102, 117, 110, 99]) then [102, 117, 110, 99, 40, 41] else t.text
def fieldX (t : Nd) : List UInt8 := (t.text ++ [32]) ++ typeX (kidAt t 0)
section
variable (t : Nd) (x : Nat → Tx) (l : List Tx)
def oprX (i k : Nat) : List UInt8 := parX (decide ((kidAt t i).kind = 32)) ((x i).ex k)
def basX (k : Nat) : List UInt8 := parX ((decide ((kidAt t 0).kind = 32) || decide ((kidAt t 0).kind = 31)) || decide ((kidAt t 0).kind = 33)) ((x 0).ex k)
def exX (k : Nat) : List UInt8 :=
  bif decide (t.kind = 24) then digL t.num.toNat
  else bif decide (t.kind = 25) then (bif decide (t.num = 1) then [116, 114, 117, 101] else [102, 97, 108, 115, 101])
  else bif decide (t.kind = 26) then [110, 105, 108]
  else bif decide (t.kind = 27) then t.text
  else bif decide (t.kind = 34) then ([110, 101, 119, 40] ++ t.text) ++ [41]
  else bif decide (t.kind = 28) then (basX t x k ++ [46]) ++ t.text
  else bif decide (t.kind = 29) then ((basX t x k ++ [91]) ++ (x 1).ex k) ++ [93]
  else bif decide (t.kind = 30) then ((basX t x k ++ [40]) ++ joinX ((l.drop 1).map fun y => y.ex k)) ++ [41]
  else bif decide (t.kind = 31) then t.text ++ oprX t x 0 k
  else bif decide (t.kind = 33) then [60, 45] ++ oprX t x 0 k
  else bif decide (t.kind = 32) then (((oprX t x 0 k ++ [32]) ++ t.text) ++ [32]) ++ oprX t x 1 k
  else bif decide (t.kind = 35) then ([109, 97, 107, 101, 40, 91, 93, 105, 110, 116, 44, 32] ++ (x 0).ex k) ++ [41]
  else bif decide (t.kind = 36) then ([109, 97, 107, 101, 40, 99, 104, 97, 110, 32, 105, 110, 116, 44, 32] ++ (x 0).ex k) ++ [41]
  else bif decide (t.kind = 37) then ([108, 101, 110, 40] ++ (x 0).ex k) ++ [41]
  else [102, 117, 110, 99, 40, 41, 32] ++ blkX (x 0) k
def varX (k : Nat) : List UInt8 := ((([118, 97, 114, 32] ++ t.text) ++ [32]) ++ typeX (kidAt t 0)) ++ (bif decide ((kidAt t 1).kind = 9) then [] else [32, 61, 32] ++ (x 1).ex k)
def ifX (k : Nat) : List UInt8 := ((([105, 102, 32] ++ (x 0).ex k) ++ [32]) ++ blkX (x 1) k) ++ (bif decide ((kidAt t 2).kind = 10) then [32, 101, 108, 115, 101, 32] ++ blkX (x 2) k else bif decide ((kidAt t 2).kind = 18) then [32, 101, 108, 115, 101, 32] ++ (x 2).st k else [])
def stX (k : Nat) : List UInt8 :=
  bif decide (t.kind = 6) then varX t x k
  else bif decide (t.kind = 10) then (([123, 10] ++ l.flatMap fun y => (tabsL (k + 1) ++ y.st (k + 1)) ++ [10]) ++ tabsL k) ++ [125]
  else bif decide (t.kind = 11) then (t.text ++ [32, 58, 61, 32]) ++ (x 0).ex k
  else bif decide (t.kind = 12) then ((x 0).ex k ++ [32, 61, 32]) ++ (x 1).ex k
  else bif decide (t.kind = 13) then (x 0).ex k
  else bif decide (t.kind = 14) then [103, 111, 32] ++ (x 0).ex k
  else bif decide (t.kind = 15) then [100, 101, 102, 101, 114, 32] ++ (x 0).ex k
  else bif decide (t.kind = 16) then ((x 0).ex k ++ [32, 60, 45, 32]) ++ (x 1).ex k
  else bif decide (t.kind = 17) then ([99, 108, 111, 115, 101, 40] ++ (x 0).ex k) ++ [41]
  else bif decide (t.kind = 21) then ([112, 114, 105, 110, 116, 40] ++ (x 0).ex k) ++ [41]
  else bif decide (t.kind = 18) then ifX t x k
  else bif decide (t.kind = 22) then (([115, 101, 108, 101, 99, 116, 32, 123, 10] ++ l.flatMap fun y => y.cs k) ++ tabsL k) ++ [125]
  else bif decide (t.kind = 20) then (bif lenK t 0 then [114, 101, 116, 117, 114, 110] else [114, 101, 116, 117, 114, 110, 32] ++ (x 0).ex k)
  else bif decide ((kidAt t 0).kind = 9) then [102, 111, 114, 32] ++ blkX (x 1) k
  else (([102, 111, 114, 32] ++ (x 0).ex k) ++ [32]) ++ blkX (x 1) k
def csX (k : Nat) : List UInt8 := (bif decide ((kidAt t 0).kind = 9) then tabsL k ++ [100, 101, 102, 97, 117, 108, 116, 58, 10] else ((tabsL k ++ [99, 97, 115, 101, 32]) ++ (x 0).st k) ++ [58, 10]) ++ (x 1).ls (k + 1)
end
def lsX (l : List Tx) (k : Nat) : List UInt8 := l.flatMap fun y => (tabsL k ++ y.st k) ++ [10]
def txF (t : Nd) (l : List Tx) : Tx := ⟨exX t (fun i => l.getD i tx0) l, stX t (fun i => l.getD i tx0) l, lsX l, csX t (fun i => l.getD i tx0)⟩
def txT (t : Nd) : Tx := para txF t
def nx0 : Tx := txT nd0
theorem txT_eq (t : Nd) : txT t = txF t (t.kids.map txT) := para_eq txF t
theorem tx_at {t : Nd} {i : Nat} (h : i < t.kids.length) : (t.kids.map txT).getD i tx0 = txT (kidAt t i) := by
  rw [kidAt_eq h]; simp [List.getD_eq_getElem?_getD, List.getElem?_eq_getElem h]
def declX (t : Nd) : List UInt8 :=
  bif decide (t.kind = 6) then (txT t).st 0
  else bif decide (t.kind = 2) then ((([116, 121, 112, 101, 32] ++ t.text) ++ [32, 115, 116, 114, 117, 99, 116, 32, 123, 10]) ++ t.kids.flatMap fun f => (((([9] ++ f.text) ++ [32]) ++ typeX (kidAt f 0)) ++ [10])) ++ [125]
  else ((((([102, 117, 110, 99, 32] ++ t.text) ++ [40]) ++ joinX ((kidAt t 0).kids.map fieldX)) ++ [41, 32]) ++ (bif decide ((kidAt t 1).kind = 9) then [] else typeX (kidAt t 1) ++ [32])) ++ blkX (txT (kidAt t 2)) 0
def printX (t : Nd) : List UInt8 := bif validB t then t.kids.flatMap fun d => declX d ++ [10] else []
/-! the program's way: a line feed ahead of each line -/
def plX (l : List Nd) (f : Nd → Nat → List UInt8) (k : Nat) : List UInt8 := l.flatMap fun c => ([10] ++ tabsL k) ++ f c k
theorem rot (l : List Nd) (f : Nd → Nat → List UInt8) (k : Nat) : plX l f k ++ [10] = [10] ++ l.flatMap fun c => (tabsL k ++ f c k) ++ [10] := by
  induction l with
  | nil => rfl
  | cons c l ih =>
    unfold plX at ih ⊢
    rw [List.flatMap_cons, List.flatMap_cons, List.append_assoc, ih]
    simp only [List.append_assoc]
theorem ls_eq (t : Nd) (k : Nat) : (txT t).ls k = t.kids.flatMap fun c => (tabsL k ++ (txT c).st k) ++ [10] := by
  rw [txT_eq]
  show lsX (t.kids.map txT) k = _
  rw [lsX, List.flatMap_map]
theorem blk_eq (t : Nd) (k : Nat) : blkX (txT t) k = ((([123] ++ plX t.kids (fun c k => (txT c).st k) (k + 1)) ++ [10]) ++ tabsL k) ++ [125] := by
  have h := rot t.kids (fun c k => (txT c).st k) (k + 1)
  rw [blkX, ls_eq, List.append_assoc [123], h]
  simp only [List.append_assoc]; rfl
end Go.Rk
