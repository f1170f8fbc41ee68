/- Syntax: permitted trees, files. Conditions: what start-up laid. -/
import Derived.Test.YtheifopckahdiaaDoorSynC
namespace Go.Rk
open Go Go.RowKit
def locB (t : Nd) : Bool := textB' t && formB t
def permF (t : Nd) : Bool := para (fun t l => locB t && l.all id) t
theorem permF_eq (t : Nd) : permF t = (locB t && t.kids.all permF) := by
  rw [permF, para_eq, List.all_map]; rfl
def maxL (l : List Nat) : Nat := l.foldl max 0
def depthN (t : Nd) : Nat := para (fun _ l => maxL l + 1) t
theorem depthN_eq (t : Nd) : depthN t = maxL (t.kids.map depthN) + 1 := para_eq _ t
theorem foldl_max_le (l : List Nat) (a d : Nat) : l.foldl max a ≤ d ↔ a ≤ d ∧ ∀ x ∈ l, x ≤ d := by
  induction l generalizing a with
  | nil => simp
  | cons x xs ih => simp only [List.foldl_cons, ih, List.forall_mem_cons, Nat.max_le, and_assoc]
theorem maxL_le (l : List Nat) (d : Nat) : maxL l ≤ d ↔ ∀ x ∈ l, x ≤ d := by
  rw [maxL, foldl_max_le]; exact ⟨fun h => h.2, fun h => ⟨Nat.zero_le _, h⟩⟩
theorem depthN_le (t : Nd) (d : Nat) : depthN t ≤ d ↔ 0 < d ∧ ∀ k ∈ t.kids, depthN k ≤ d - 1 := by
  rw [depthN_eq]
  constructor
  · intro h
    refine ⟨by omega, fun k hk => ?_⟩
    have := (maxL_le (t.kids.map depthN) (d - 1)).1 (by omega)
    exact this _ (List.mem_map_of_mem hk)
  · rintro ⟨h0, h⟩
    have := (maxL_le (t.kids.map depthN) (d - 1)).2 (fun x hx => by obtain ⟨k, hk, rfl⟩ := List.mem_map.1 hx; exact h k hk)
    omega
theorem depthN_pos (t : Nd) : 1 ≤ depthN t := by rw [depthN_eq]; omega
theorem depthN_count : ∀ t, depthN t ≤ count t := by
  refine Nd.ind fun t ih => ?_
  rw [depthN_le]
  exact ⟨count_pos t, fun k hk => by have := ih k hk; have := count_mem hk; omega⟩
def permB (d : Nat) (t : Nd) : Bool := permF t && decide (depthN t ≤ d)
theorem permB_zero (t : Nd) : permB 0 t = false := by
  have := depthN_pos t
  rw [permB, decide_eq_false (by omega), Bool.and_false]
theorem permB_eq {d : Nat} (h : 0 < d) (t : Nd) : permB d t = ((textB' t && formB t) && t.kids.all (permB (d - 1))) := by
  rw [Bool.eq_iff_iff, permB, permF_eq, locB]
  simp only [Bool.and_eq_true, decide_eq_true_eq, depthN_le t d, List.all_eq_true, permB]
  constructor
  · rintro ⟨⟨h1, h2⟩, _, h3⟩; exact ⟨h1, fun k hk => ⟨h2 k hk, h3 k hk⟩⟩
  · rintro ⟨h1, h2⟩; exact ⟨⟨h1, fun k hk => (h2 k hk).1⟩, h, fun k hk => (h2 k hk).2⟩
theorem kidAt_len {t : Nd} {n : Nat} (h : count t ≤ n) (i : Nat) : (kidAt t i).kids.length ≤ n := by
  by_cases hi : i < t.kids.length
  · rw [kidAt_eq hi]
    have := count_mem (List.getElem_mem hi)
    have := kids_le t.kids[i]
    omega
  · have : kidAt t i = nd0 := by simp only [kidAt, List.getD_eq_getElem?_getD]; rw [List.getElem?_eq_none (by omega)]; rfl
    rw [this]; exact Nat.zero_le _
theorem permitted_ok : ∀ (t : Nd) (v : Value) (D : Nat → Prop) (d : Nat) (w : World), Laid w → 4 ≤ w.heap.size → Kd w D t.kids v → count t ≤ 1000000 → d ≤ 1000000 → Ret PP fn_syntax_permitted #[ndV t v, .int .i64 (d : Int)] w fun r w' => r = .bool (permB d t) ∧ G w w' := by
  refine Nd.ind fun t ih v D d w hL hb3 hk hcn hd => ?_
  have hk0 := hk
  obtain ⟨p, c, rfl, hcap, hks⟩ := hk
  have g := G.refl w
  have hlen := kids_le t
  refine ret_of_sc (m := 32) func_syntax_permitted rfl rfl [(0, True, _), (1, True, _)] (sub_cons rfl (sub_cons rfl (sub_nil _))) ?_
  refine sc_seq fun K1 hK1 => ?_
  refine sc_text [1, 3] ?_
  refine sr_box rfl (ev_t rfl) rfl ?_
  intro b2 w2 N2
  have l2 := N2.ge g
  have g := g.trans (N2.g)
  have B2 := N2.blk
  refine sr_pu rfl (fun _ => rd_assign ev_c) ?_
  refine sr_sub [(1, _, _), (2, _, _), (4, _, _)] (sub_cons rfl (sub_cons rfl (sub_cons rfl (sub_nil _)))) ?_
  refine sr_nil (hK1 _ _ ?_)
  refine sc_seq fun K2 hK2 => ?_
  refine sc_seq fun K3 hK3 => ?_
  refine sc_text [3, 3, 3, 0, 1, 3, 3, 3, 0, 1, 3, 3] ?_
  refine sr_pu rfl (fun _ => rd_move (ev_t rfl)) ?_
  refine sr_pu rfl (fun _ => rd_eq (ev_t rfl) ev_c) ?_
  refine sr_pu rfl (fun _ => rd_move (ev_t rfl)) ?_
  refine sr_rdg rfl rfl rfl (rd_loads agg_api_Node (ev_t rfl) rfl (fun _ => B2.row)) ?_
  refine sr_pureg rfl rfl rfl (fun _ => (rc_call go_syntax_text ev_f (args_cons (ev_u rfl id) (args_nil)) rfl)) (fun hc => stext_ok t _ _ _ (hL.grow g) (by have := g.size; omega)) (fun w11 g11 => ?_)
  have g := g.trans (g11)
  replace B2 := B2.grow (g11)
  refine sr_pug rfl rfl rfl (fun _ => rd_not (ev_u rfl id)) ?_
  refine sr_pu rfl (fun _ => rd_pick_or (ev_t rfl) (ev_u rfl id)) ?_
  refine sr_pu rfl (fun _ => rd_move (ev_t rfl)) ?_
  refine sr_rdg rfl rfl rfl (rd_loads agg_api_Node (ev_t rfl) rfl (fun _ => B2.row)) ?_
  refine sr_pureg rfl rfl rfl (fun _ => (rc_call go_syntax_form ev_f (args_cons (ev_u rfl id) (args_nil)) rfl)) (fun hc => form_ok t _ _ D _ (hk0.grow g) (by omega) (fun i => kidAt_len hcn i)) (fun w16 g16 => ?_)
  have g := g.trans (g16)
  replace B2 := B2.grow (g16)
  refine sr_pug rfl rfl rfl (fun _ => rd_not (ev_u rfl id)) ?_
  refine sr_pu rfl (fun _ => rd_pick_or (ev_t rfl) (ev_u rfl id)) ?_
  refine sr_sub [(1, _, _), (2, _, _), (4, _, _), (18, _, _)] (sub_cons rfl (sub_cons rfl (sub_cons rfl (sub_cons rfl (sub_nil _))))) ?_
  refine sr_nil (hK3 _ _ ?_)
  refine sc_cond (ev_t rfl) (fun h1 => ?_) (fun h1 => ?_)
  · have hN : permB d t = false := by
      rw [Bool.or_eq_true, Bool.or_eq_true, decide_eq_true_eq, Bool.not_eq_true', Bool.not_eq_true'] at h1
      by_cases h0 : d = 0
      · rw [h0]; exact permB_zero t
      · rw [permB_eq (by omega)]
        rcases h1 with (h1 | h1) | h1
        · omega
        · rw [h1]; rfl
        · rw [h1, Bool.and_false]; rfl
    refine sc_seq fun K4 hK4 => ?_
    refine sc_text [3] ?_
    refine sr_pu rfl (fun _ => rd_assign ev_c) ?_
    refine sr_sub [(1, _, _), (2, _, _), (4, _, _)] (sub_cons rfl (sub_cons rfl (sub_cons rfl (sub_nil _)))) ?_
    refine sr_nil (hK4 _ _ ?_)
    refine sc_ret (t_ret1 rfl rfl ?_)
    rw [hN]; exact ⟨rfl, g⟩
  · have hpos : 0 < d := by
      rcases Nat.eq_zero_or_pos d with h0 | h0
      · rw [h0] at h1; exact absurd h1 (by simp)
      · exact h0
    have hloc : (textB' t && formB t) = true := by
      rw [Bool.or_eq_false_iff, Bool.or_eq_false_iff, Bool.not_eq_false', Bool.not_eq_false'] at h1
      rw [h1.1.2, h1.2]; rfl
    have hN := permB_eq hpos t
    rw [hloc, Bool.true_and] at hN
    refine sc_skip (hK2 _ _ ?_)
    refine sc_sub [(1, _, _), (2, _, _), (4, _, _)] (sub_cons rfl (sub_cons rfl (sub_cons rfl (sub_nil _)))) ?_
    refine sc_seq fun K5 hK5 => ?_
    refine sc_seq fun K6 hK6 => ?_
    refine sc_text [3, 0, 3, 3] ?_
    refine sr_pu rfl (fun _ => rd_field fo_api_Node_4 (ev_t rfl)) ?_
    refine sr_rd rfl (rd_load one_sl_api_Node (ev_t rfl) (fun _ => B2.at_ rfl)) ?_
    refine sr_pu rfl (fun _ => rd_len el_sl_api_Node (ev_t rfl)) ?_
    refine sr_pu rfl (fun _ => rd_move ev_c) ?_
    refine sr_sub [(1, _, _), (4, _, _), (20, _, _), (21, _, _), (22, _, _)] (sub_cons rfl (sub_cons rfl (sub_cons rfl (sub_cons rfl (sub_cons rfl (sub_nil _)))))) ?_
    refine sr_nil (hK6 _ _ ?_)
    refine sc_block ?_
    refine sc_loop2 (fun (i : Nat) u1 => (i ≤ t.kids.length ∧ ∀ j, (h : j < t.kids.length) → j < i → permB (d - 1) t.kids[j] = true) ∧ G w16 u1) [(1, True, _), (20, True, _), (21, True, _)] (fun (i : Nat) => [(22, True, .int .i64 i)]) (fun (i : Nat) => t.kids.length - i) (0) ⟨⟨Nat.zero_le _, fun j _ hj => absurd hj (Nat.not_lt_zero j)⟩, G.refl _⟩ (sub_cons rfl (sub_cons rfl (sub_cons rfl (sub_cons rfl (sub_nil _))))) ?_
    rintro i u1 ⟨hI1, gl1⟩
    have g := g.trans gl1
    replace B2 := B2.grow (gl1)
    refine sc_seq fun K7 hK7 => ?_
    refine sc_text [3] ?_
    refine sr_pu rfl (fun _ => rd_lt (ev_t rfl) (ev_t rfl)) ?_
    refine sr_nil (hK7 _ _ ?_)
    refine sc_sub [(1, _, _), (20, _, _), (21, _, _), (22, _, _), (23, _, _)] (sub_cons rfl (sub_cons rfl (sub_cons rfl (sub_cons rfl (sub_cons rfl (sub_nil _)))))) ?_
    refine sc_seq fun K8 hK8 => ?_
    refine sc_cond (ev_t rfl) (fun h2 => ?_) (fun h2 => ?_)
    · replace h2 : i < t.kids.length := by simp only [decide_eq_true_eq] at h2; omega
      obtain ⟨b, o, rfl, hD, xs, hR, hX⟩ := hks (by omega)
      obtain ⟨p', c', hcell, hkid⟩ := kd_at hR hX h2
      have hck := count_kid h2
      refine sc_skip (hK8 _ _ ?_)
      refine sc_sub [(1, _, _), (20, _, _), (21, _, _), (22, _, _)] (sub_cons rfl (sub_cons rfl (sub_cons rfl (sub_cons rfl (sub_nil _))))) ?_
      refine sc_seq fun K9 hK9 => ?_
      refine sc_block ?_
      refine sc_seq fun K10 hK10 => ?_
      refine sc_text [3, 0, 1, 2] ?_
      refine sr_pu rfl (fun _ => rd_idx el_sl_api_Node (ev_t rfl) (ev_t rfl) (fun _ => by omega)) ?_
      refine sr_rd rfl (rd_loads agg_api_Node (ev_t rfl) rfl (fun _ => hcell.grow g)) ?_
      refine sr_alloc rfl ze_api_Node rfl ?_
      intro b6 w6 N6
      have x6_2 := N6.ne B2
      have l6 := N6.ge g
      try have l6_gl1 := N6.ge gl1
      have g := g.trans (N6.g)
      try have gl1 := gl1.trans (N6.g)
      replace B2 := B2.grow (N6.g)
      have B6 := N6.blk
      refine sr_store_all rfl sz_api_Node (ev_t rfl) (ev_t rfl) rfl rfl B6 rfl rfl ?_
      intro wS1 hgS1 hzS1
      clear B6
      intro B6
      replace B2 := B2.keep hgS1 (by intro h; injection h with h; omega)
      have g := g_only g hgS1 (by intro k hk; injection hk with hk; omega)
      first | replace gl1 := g_only gl1 hgS1 (by intro k hk; injection hk with hk; omega) | clear gl1 | skip
      refine sr_sub [(1, _, _), (6, _, _), (20, _, _), (21, _, _), (22, _, _)] (sub_cons rfl (sub_cons rfl (sub_cons rfl (sub_cons rfl (sub_cons rfl (sub_nil _)))))) ?_
      refine sr_nil (hK10 _ _ ?_)
      refine sc_seq fun K11 hK11 => ?_
      refine sc_text [0, 3, 3, 1, 3] ?_
      refine sr_rd rfl (rd_loads agg_api_Node (ev_t rfl) rfl (fun _ => B6.row)) ?_
      refine sr_pu rfl (fun _ => rd_move (ev_t rfl)) ?_
      refine sr_pu rfl (fun _ => rd_subr (r := ((d - 1 : Nat) : Int)) (ev_t rfl) ev_c (fun hc => (by rw [i64_id ⟨by omega, by omega⟩]; omega))) ?_
      refine sr_pure rfl (rc_call go_syntax_permitted ev_f (args_cons (ev_t rfl) (args_cons (ev_t rfl) (args_nil))) rfl) (ih _ (List.getElem_mem h2) _ _ (d - 1) _ (hL.grow g) (by have := g.size; omega) (hkid.grow g) (by omega) (by omega)) (fun w29 g29 => ?_)
      have g := g.trans (g29)
      try have gl1 := gl1.trans (g29)
      replace B2 := B2.grow (g29)
      replace B6 := B6.grow (g29)
      refine sr_pu rfl (fun _ => rd_not (ev_t rfl)) ?_
      refine sr_sub [(1, _, _), (20, _, _), (21, _, _), (22, _, _), (30, _, _)] (sub_cons rfl (sub_cons rfl (sub_cons rfl (sub_cons rfl (sub_cons rfl (sub_nil _)))))) ?_
      refine sr_nil (hK11 _ _ ?_)
      refine sc_cond (ev_t rfl) (fun h3 => ?_) (fun h3 => ?_)
      · (try simp only [bsimp] at h3)
        refine sc_seq fun K12 hK12 => ?_
        refine sc_text [3] ?_
        refine sr_pu rfl (fun _ => rd_assign ev_c) ?_
        refine sr_sub [(1, _, _), (4, _, _), (20, _, _), (21, _, _), (22, _, _)] (sub_cons rfl (sub_cons rfl (sub_cons rfl (sub_cons rfl (sub_cons rfl (sub_nil _)))))) ?_
        refine sr_nil (hK12 _ _ ?_)
        refine sc_ret (t_ret1 rfl rfl ?_)
        refine ⟨congrArg Value.bool ?_, g⟩
        rw [eq_comm, hN, List.all_eq_false]
        exact ⟨_, List.getElem_mem h2, by simpa using h3⟩
      · (try simp only [bsimp] at h3)
        refine sc_skip (hK9 _ _ ?_)
        refine sc_sub [(1, _, _), (20, _, _), (21, _, _), (22, _, _)] (sub_cons rfl (sub_cons rfl (sub_cons rfl (sub_cons rfl (sub_nil _))))) ?_
        refine sc_text [3, 3] ?_
        refine sr_pu rfl (fun _ => rd_add (ev_t rfl) ev_c (fun _ => by omega)) ?_
        refine sr_pu rfl (fun _ => rd_move (ev_t rfl)) ?_
        refine sr_sub [(22, _, _), (1, _, _), (20, _, _), (21, _, _)] (sub_cons rfl (sub_cons rfl (sub_cons rfl (sub_cons rfl (sub_nil _))))) ?_
        refine sr_nil (fun a ha => ?_)
        refine ⟨i + 1, ha, ⟨⟨h2, fun j h hj => ?_⟩, gl1⟩, by omega⟩
        by_cases e : j = i
        · subst e; simpa using h3
        · exact hI1.2 j h (by omega)
    · (try simp only [bsimp] at h2)
      refine sc_exit rfl (hK5 _ _ ?_)
      refine sc_sub [] (sub_nil _) ?_
      refine sc_seq fun K13 hK13 => ?_
      refine sc_text [3] ?_
      refine sr_pu rfl (fun _ => rd_assign ev_c) ?_
      refine sr_nil (hK13 _ _ ?_)
      refine sc_ret (t_ret1 rfl rfl ?_)
      refine ⟨congrArg Value.bool ?_, g⟩
      rw [eq_comm, hN, List.all_eq_true]
      intro x hx
      obtain ⟨j, hj, rfl⟩ := List.getElem_of_mem hx
      exact hI1.2 j hj (by simp only [decide_eq_false_iff_not] at h2; omega)
def validB (t : Nd) : Bool := decide (t.kind = 1) && permB 50 t
theorem svalid_ok (t : Nd) (v : Value) (D : Nat → Prop) (w : World) (hL : Laid w) (hb3 : 4 ≤ w.heap.size) (hk : Kd w D t.kids v) (hcn : count t ≤ 1000000) : Ret PP fn_syntax_Valid #[ndV t v] w fun r w' => r = .bool (validB t) ∧ G w w' := by
  have g := G.refl w
  refine ret_of_sc (m := 10) func_syntax_Valid rfl rfl [(0, True, _)] (sub_cons rfl (sub_nil _)) ?_
  refine sc_seq fun K1 hK1 => ?_
  refine sc_text [1, 3] ?_
  refine sr_box rfl (ev_t rfl) rfl ?_
  intro b1 w1 N1
  have l1 := N1.ge g
  have g := g.trans (N1.g)
  have B1 := N1.blk
  refine sr_pu rfl (fun _ => rd_assign ev_c) ?_
  refine sr_sub [(1, _, _), (2, _, _)] (sub_cons rfl (sub_cons rfl (sub_nil _))) ?_
  refine sr_nil (hK1 _ _ ?_)
  refine sc_seq fun K2 hK2 => ?_
  refine sc_text [3, 0, 3, 3, 0, 1, 3, 3] ?_
  refine sr_pu rfl (fun _ => rd_field fo_api_Node_0 (ev_t rfl)) ?_
  refine sr_rd rfl (rd_load one_int (ev_t rfl) (fun _ => B1.at_ rfl)) ?_
  refine sr_pu rfl (fun _ => rd_eq (ev_t rfl) ev_c) ?_
  refine sr_pu rfl (fun _ => rd_move (ev_t rfl)) ?_
  refine sr_rdg rfl rfl rfl (rd_loads agg_api_Node (ev_t rfl) rfl (fun _ => B1.row)) ?_
  refine sr_pureg rfl rfl rfl (fun _ => (rc_call go_syntax_permitted ev_f (args_cons (ev_u rfl id) (args_cons ev_c (args_nil))) rfl)) (fun hc => permitted_ok t _ D 50 _ (hL.grow g) (by have := g.size; omega) (hk.grow g) hcn (by decide)) (fun w8 g8 => ?_)
  have g := g.trans (g8)
  replace B1 := B1.grow (g8)
  refine sr_pu rfl (fun _ => rd_pick_and (ev_t rfl) (ev_u rfl id)) ?_
  refine sr_pu rfl (fun _ => rd_assign (ev_t rfl)) ?_
  refine sr_sub [(2, _, _)] (sub_cons rfl (sub_nil _)) ?_
  refine sr_nil (hK2 _ _ ?_)
  refine sc_ret (t_ret1 rfl rfl ?_)
  exact ⟨rfl, g⟩
end Go.Rk
