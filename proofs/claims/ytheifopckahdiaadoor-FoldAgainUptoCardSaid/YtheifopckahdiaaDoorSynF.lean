/- Syntax: the reference's expressions and statements. Conditions: none. -/
import Derived.Test.YtheifopckahdiaaDoorSynE
namespace Go.Rk
open Go Go.RowKit
/-- What the reference says of a tree, walked. -/
structure ROk (t : Nd) : Prop where
  ex : ∀ (p : Option Addr) (c : Nat) (D : Nat → Prop) (w : World), Kd w D t.kids (.slice p t.kids.length c) → Ret PP fn_r03_IsExpr #[ndV t (.slice p t.kids.length c)] w fun r w' => r = .bool (exprB t) ∧ G w w'
  bl : ∀ (p : Option Addr) (c : Nat) (D : Nat → Prop) (w : World), Kd w D t.kids (.slice p t.kids.length c) → Ret PP fn_r03_isBlock #[ndV t (.slice p t.kids.length c)] w fun r w' => r = .bool (blockB t) ∧ G w w'
  st : ∀ (p : Option Addr) (c : Nat) (D : Nat → Prop) (w : World), Kd w D t.kids (.slice p t.kids.length c) → Ret PP fn_r03_isStmt #[ndV t (.slice p t.kids.length c)] w fun r w' => r = .bool (stmtB t) ∧ G w w'
  fi : ∀ (p : Option Addr) (c : Nat) (D : Nat → Prop) (w : World), Kd w D t.kids (.slice p t.kids.length c) → Ret PP fn_r03_isIf #[ndV t (.slice p t.kids.length c)] w fun r w' => r = .bool (ifB t) ∧ G w w'
  cm : ∀ (p : Option Addr) (c : Nat) (D : Nat → Prop) (w : World), Kd w D t.kids (.slice p t.kids.length c) → Ret PP fn_r03_isComm #[ndV t (.slice p t.kids.length c)] w fun r w' => r = .bool (commF t) ∧ G w w'
def Below (t : Nd) : Prop := ∀ k, count k < count t → ROk k
theorem Below.kid {t : Nd} (ih : Below t) {i : Nat} (h : i < t.kids.length) : ROk (kidAt t i) := by
  refine ih _ ?_
  rw [kidAt_eq h]
  have := count_mem (List.getElem_mem h); omega
theorem kd_ih {w : World} {D : Nat → Prop} {t : Nd} {p : Option Addr} {c : Nat} (hk : Kd w D t.kids (.slice p t.kids.length c)) (ih : Below t) (i : Nat) : ∃ p' c', i < t.kids.length → p = some ⟨pb p, po p, none⟩ ∧ RowAt w (pb p) (po p + i * 9) (ndCells (kidAt t i) (.slice p' (kidAt t i).kids.length c')) ∧ Kd w D (kidAt t i).kids (.slice p' (kidAt t i).kids.length c') ∧ ROk (kidAt t i) := by
  obtain ⟨p', c', h⟩ := kd_optx hk i
  exact ⟨p', c', fun hi => ⟨(h hi).1, (h hi).2.1, (h hi).2.2, ih.kid hi⟩⟩
theorem none_ok (t : Nd) (p : Option Addr) (c : Nat) (w : World) : Ret PP fn_r03_isNone #[ndV t (.slice p t.kids.length c)] w fun r w' => r = .bool (noneB t) ∧ G w w' := by
  have g := G.refl w
  refine ret_of_sc (m := 17) func_r03_isNone rfl rfl [(0, True, _)] (sub_cons rfl (sub_nil _)) ?_
  refine sc_seq fun K1 hK1 => ?_
  refine sc_text [1, 3] ?_
  refine sr_box rfl (ev_t rfl) rfl ?_
  intro b1 w1 N1
  have l1 := N1.ge g
  have g := g.trans (N1.g)
  have B1 := N1.blk
  refine sr_pu rfl (fun _ => rd_assign ev_c) ?_
  refine sr_sub [(1, _, _), (2, _, _)] (sub_cons rfl (sub_cons rfl (sub_nil _))) ?_
  refine sr_nil (hK1 _ _ ?_)
  refine sc_seq fun K2 hK2 => ?_
  refine sc_text [3, 0, 3, 3, 3, 0, 3, 3, 3, 3, 0, 3, 3, 3, 3] ?_
  refine sr_pu rfl (fun _ => rd_field fo_api_Node_0 (ev_t rfl)) ?_
  refine sr_rd rfl (rd_load one_int (ev_t rfl) (fun _ => B1.at_ rfl)) ?_
  refine sr_pu rfl (fun _ => rd_eq (ev_t rfl) ev_c) ?_
  refine sr_pu rfl (fun _ => rd_move (ev_t rfl)) ?_
  refine sr_pug rfl rfl rfl (fun _ => rd_field fo_api_Node_1 (ev_t rfl)) ?_
  refine sr_rdg rfl rfl rfl (rd_load one_string (ev_u rfl id) (fun _ => B1.at_ rfl)) ?_
  refine sr_pug rfl rfl rfl (fun _ => rd_seq (ev_u rfl id) ev_c) ?_
  refine sr_pu rfl (fun _ => rd_pick_and (ev_t rfl) (ev_u rfl id)) ?_
  refine sr_pu rfl (fun _ => rd_move (ev_t rfl)) ?_
  refine sr_pug rfl rfl rfl (fun _ => rd_field fo_api_Node_4 (ev_t rfl)) ?_
  refine sr_rdg rfl rfl rfl (rd_load one_sl_api_Node (ev_u rfl id) (fun _ => B1.at_ rfl)) ?_
  refine sr_pug rfl rfl rfl (fun _ => rd_len el_sl_api_Node (ev_u rfl id)) ?_
  refine sr_pug rfl rfl rfl (fun _ => rd_eq (ev_u rfl id) ev_c) ?_
  refine sr_pu rfl (fun _ => rd_pick_and (ev_t rfl) (ev_u rfl id)) ?_
  refine sr_pu rfl (fun _ => rd_assign (ev_t rfl)) ?_
  refine sr_sub [(2, _, _)] (sub_cons rfl (sub_nil _)) ?_
  refine sr_nil (hK2 _ _ ?_)
  refine sc_ret (t_ret1 rfl rfl ?_)
  exact ⟨rfl, g⟩
theorem exprs_ok (l : List Nd) (p : Option Addr) (c : Nat) (D : Nat → Prop) (w : World) (hk : Kd w D l (.slice p l.length c)) (hr : ∀ k ∈ l, ROk k) (hln : l.length ≤ 1000000) : Ret PP fn_r03_expressions #[.slice p l.length c] w fun r w' => r = .bool (l.all exprB) ∧ G w w' := by
  have g := G.refl w
  obtain ⟨p', c', hpe, _, hks⟩ := hk
  injection hpe with hpe _ hce
  subst hpe hce
  refine ret_of_sc (m := 16) func_r03_expressions rfl rfl [(0, True, _)] (sub_cons rfl (sub_nil _)) ?_
  refine sc_seq fun K1 hK1 => ?_
  refine sc_text [3] ?_
  refine sr_pu rfl (fun _ => rd_assign ev_c) ?_
  refine sr_nil (hK1 _ _ ?_)
  refine sc_seq fun K2 hK2 => ?_
  refine sc_seq fun K3 hK3 => ?_
  refine sc_text [3] ?_
  refine sr_pu rfl (fun _ => rd_assign ev_c) ?_
  refine sr_nil (hK3 _ _ ?_)
  refine sc_block ?_
  refine sc_loop2 (fun (i : Nat) u1 => (i ≤ l.length ∧ ∀ j, (h : j < l.length) → j < i → exprB l[j] = true) ∧ G w u1) [(0, True, _)] (fun (i : Nat) => [(3, True, .int .i64 i)]) (fun (i : Nat) => l.length - i) (0) ⟨⟨Nat.zero_le _, fun j _ hj => absurd hj (Nat.not_lt_zero j)⟩, G.refl _⟩ (sub_cons rfl (sub_cons rfl (sub_nil _))) ?_
  rintro i u1 ⟨hI1, gl1⟩
  have g := g.trans gl1
  refine sc_seq fun K4 hK4 => ?_
  refine sc_seq fun K5 hK5 => ?_
  refine sc_text [3, 3, 3, 3] ?_
  refine sr_pu rfl (fun _ => rd_move (ev_t rfl)) ?_
  refine sr_pu rfl (fun _ => rd_move (ev_t rfl)) ?_
  refine sr_pu rfl (fun _ => rd_len el_sl_api_Node (ev_t rfl)) ?_
  refine sr_pu rfl (fun _ => rd_lt (ev_t rfl) (ev_t rfl)) ?_
  refine sr_sub [(0, _, _), (3, _, _), (7, _, _)] (sub_cons rfl (sub_cons rfl (sub_cons rfl (sub_nil _)))) ?_
  refine sr_nil (hK5 _ _ ?_)
  refine sc_cond (ev_t rfl) (fun h1 => ?_) (fun h1 => ?_)
  · replace h1 : i < l.length := by simp only [decide_eq_true_eq] at h1; omega
    obtain ⟨b, o, rfl, hD, xs, hR, hX⟩ := hks (by omega)
    obtain ⟨p', c', hcell, hkid⟩ := kd_at hR hX h1
    refine sc_skip (hK4 _ _ ?_)
    refine sc_sub [(0, _, _), (3, _, _)] (sub_cons rfl (sub_cons rfl (sub_nil _))) ?_
    refine sc_seq fun K6 hK6 => ?_
    refine sc_block ?_
    refine sc_seq fun K7 hK7 => ?_
    refine sc_text [3, 3, 3, 0, 1, 3] ?_
    refine sr_pu rfl (fun _ => rd_move (ev_t rfl)) ?_
    refine sr_pu rfl (fun _ => rd_move (ev_t rfl)) ?_
    refine sr_pu rfl (fun _ => rd_idx el_sl_api_Node (ev_t rfl) (ev_t rfl) (fun _ => by omega)) ?_
    refine sr_rd rfl (rd_loads agg_api_Node (ev_t rfl) rfl (fun _ => hcell.grow g)) ?_
    refine sr_pure rfl (rc_call go_r03_IsExpr ev_f (args_cons (ev_t rfl) (args_nil)) rfl) ((hr _ (List.getElem_mem h1)).ex _ _ D _ (hkid.grow g)) (fun w14 g14 => ?_)
    have g := g.trans (g14)
    try have gl1 := gl1.trans (g14)
    refine sr_pu rfl (fun _ => rd_not (ev_t rfl)) ?_
    refine sr_sub [(0, _, _), (3, _, _), (15, _, _)] (sub_cons rfl (sub_cons rfl (sub_cons rfl (sub_nil _)))) ?_
    refine sr_nil (hK7 _ _ ?_)
    refine sc_cond (ev_t rfl) (fun h2 => ?_) (fun h2 => ?_)
    · (try simp only [bsimp] at h2)
      refine sc_seq fun K8 hK8 => ?_
      refine sc_text [3] ?_
      refine sr_pu rfl (fun _ => rd_assign ev_c) ?_
      refine sr_sub [(0, _, _), (2, _, _), (3, _, _)] (sub_cons rfl (sub_cons rfl (sub_cons rfl (sub_nil _)))) ?_
      refine sr_nil (hK8 _ _ ?_)
      refine sc_ret (t_ret1 rfl rfl ?_)
      refine ⟨congrArg Value.bool ?_, g⟩
      rw [eq_comm, List.all_eq_false]
      exact ⟨_, List.getElem_mem h1, by simpa using h2⟩
    · (try simp only [bsimp] at h2)
      refine sc_skip (hK6 _ _ ?_)
      refine sc_sub [(0, _, _), (3, _, _)] (sub_cons rfl (sub_cons rfl (sub_nil _))) ?_
      refine sc_text [3, 3, 3] ?_
      refine sr_pu rfl (fun _ => rd_move (ev_t rfl)) ?_
      refine sr_pu rfl (fun _ => rd_add (ev_t rfl) ev_c (fun _ => by omega)) ?_
      refine sr_pu rfl (fun _ => rd_assign (ev_t rfl)) ?_
      refine sr_sub [(3, _, _), (0, _, _)] (sub_cons rfl (sub_cons rfl (sub_nil _))) ?_
      refine sr_nil (fun a ha => ?_)
      refine ⟨i + 1, ha, ⟨⟨h1, fun j h hj => ?_⟩, gl1⟩, by omega⟩
      by_cases e : j = i
      · subst e; simpa using h2
      · exact hI1.2 j h (by omega)
  · (try simp only [bsimp] at h1)
    refine sc_exit rfl (hK2 _ _ ?_)
    refine sc_sub [] (sub_nil _) ?_
    refine sc_seq fun K9 hK9 => ?_
    refine sc_text [3] ?_
    refine sr_pu rfl (fun _ => rd_assign ev_c) ?_
    refine sr_nil (hK9 _ _ ?_)
    refine sc_ret (t_ret1 rfl rfl ?_)
    refine ⟨congrArg Value.bool ?_, g⟩
    rw [eq_comm, List.all_eq_true]
    intro x hx
    obtain ⟨j, hj, rfl⟩ := List.getElem_of_mem hx
    exact hI1.2 j hj (by simp only [decide_eq_false_iff_not] at h1; omega)
theorem kind_ok (t : Nd) (n : Int) (p : Option Addr) (c : Nat) (D : Nat → Prop) (w : World) (hk : Kd w D t.kids (.slice p t.kids.length c)) (h : ROk t) : Ret PP fn_r03_kind #[ndV t (.slice p t.kids.length c), .int .i64 n] w fun r w' => r = .bool (kindB t n) ∧ G w w' := by
  have g := G.refl w
  refine ret_of_sc (m := 13) func_r03_kind rfl rfl [(0, True, _), (1, True, _)] (sub_cons rfl (sub_cons rfl (sub_nil _))) ?_
  refine sc_seq fun K1 hK1 => ?_
  refine sc_text [1, 3] ?_
  refine sr_box rfl (ev_t rfl) rfl ?_
  intro b2 w2 N2
  have l2 := N2.ge g
  have g := g.trans (N2.g)
  have B2 := N2.blk
  refine sr_pu rfl (fun _ => rd_assign ev_c) ?_
  refine sr_sub [(1, _, _), (2, _, _), (4, _, _)] (sub_cons rfl (sub_cons rfl (sub_cons rfl (sub_nil _)))) ?_
  refine sr_nil (hK1 _ _ ?_)
  refine sc_seq fun K2 hK2 => ?_
  refine sc_text [3, 0, 3, 3, 3, 0, 1, 3, 3] ?_
  refine sr_pu rfl (fun _ => rd_field fo_api_Node_0 (ev_t rfl)) ?_
  refine sr_rd rfl (rd_load one_int (ev_t rfl) (fun _ => B2.at_ rfl)) ?_
  refine sr_pu rfl (fun _ => rd_move (ev_t rfl)) ?_
  refine sr_pu rfl (fun _ => rd_eq (ev_t rfl) (ev_t rfl)) ?_
  refine sr_pu rfl (fun _ => rd_move (ev_t rfl)) ?_
  refine sr_rdg rfl rfl rfl (rd_loads agg_api_Node (ev_t rfl) rfl (fun _ => B2.row)) ?_
  refine sr_pureg rfl rfl rfl (fun _ => (rc_call go_r03_IsExpr ev_f (args_cons (ev_u rfl id) (args_nil)) rfl)) (fun hc => h.ex _ _ D _ (hk.grow g)) (fun w11 g11 => ?_)
  have g := g.trans (g11)
  replace B2 := B2.grow (g11)
  refine sr_pu rfl (fun _ => rd_pick_and (ev_t rfl) (ev_u rfl id)) ?_
  refine sr_pu rfl (fun _ => rd_assign (ev_t rfl)) ?_
  refine sr_sub [(4, _, _)] (sub_cons rfl (sub_nil _)) ?_
  refine sr_nil (hK2 _ _ ?_)
  refine sc_ret (t_ret1 rfl rfl ?_)
  exact ⟨rfl, g⟩
theorem isexpr_ok (t : Nd) (p : Option Addr) (c : Nat) (D : Nat → Prop) (w : World) (hk : Kd w D t.kids (.slice p t.kids.length c)) (ih : Below t) (hln : t.kids.length ≤ 1000000) : Ret PP fn_r03_IsExpr #[ndV t (.slice p t.kids.length c)] w fun r w' => r = .bool (exprB t) ∧ G w w' := by
  rw [← refExpr_eq]
  have g := G.refl w
  obtain ⟨p0, c0, h0x⟩ := kd_ih hk ih 0
  have hr : ∀ k ∈ t.kids, ROk k := fun k hk => ih k (count_mem hk)
  refine ret_of_sc (m := 165) func_r03_IsExpr rfl rfl [(0, True, _)] (sub_cons rfl (sub_nil _)) ?_
  refine sc_seq fun K1 hK1 => ?_
  refine sc_text [1, 3] ?_
  refine sr_box rfl (ev_t rfl) rfl ?_
  intro b1 w1 N1
  have l1 := N1.ge g
  have g := g.trans (N1.g)
  have B1 := N1.blk
  refine sr_pu rfl (fun _ => rd_assign ev_c) ?_
  refine sr_sub [(1, _, _), (2, _, _)] (sub_cons rfl (sub_cons rfl (sub_nil _))) ?_
  refine sr_nil (hK1 _ _ ?_)
  refine sc_seq fun K2 hK2 => ?_
  refine sc_text [3, 0, 3, 3] ?_
  refine sr_pu rfl (fun _ => rd_field fo_api_Node_4 (ev_t rfl)) ?_
  refine sr_rd rfl (rd_load one_sl_api_Node (ev_t rfl) (fun _ => B1.at_ rfl)) ?_
  refine sr_pu rfl (fun _ => rd_len el_sl_api_Node (ev_t rfl)) ?_
  refine sr_pu rfl (fun _ => rd_assign (ev_t rfl)) ?_
  refine sr_sub [(1, _, _), (2, _, _), (3, _, _)] (sub_cons rfl (sub_cons rfl (sub_cons rfl (sub_nil _)))) ?_
  refine sr_nil (hK2 _ _ ?_)
  refine sc_seq fun K3 hK3 => ?_
  refine sc_text [3, 0, 3, 3] ?_
  refine sr_pu rfl (fun _ => rd_field fo_api_Node_1 (ev_t rfl)) ?_
  refine sr_rd rfl (rd_load one_string (ev_t rfl) (fun _ => B1.at_ rfl)) ?_
  refine sr_pu rfl (fun _ => rd_seq (ev_t rfl) ev_c) ?_
  refine sr_pu rfl (fun _ => rd_assign (ev_t rfl)) ?_
  refine sr_sub [(1, _, _), (2, _, _), (3, _, _), (4, _, _)] (sub_cons rfl (sub_cons rfl (sub_cons rfl (sub_cons rfl (sub_nil _))))) ?_
  refine sr_nil (hK3 _ _ ?_)
  refine sc_seq fun K4 hK4 => ?_
  refine sc_seq fun K5 hK5 => ?_
  refine sc_text [3, 0] ?_
  refine sr_pu rfl (fun _ => rd_field fo_api_Node_0 (ev_t rfl)) ?_
  refine sr_rd rfl (rd_load one_int (ev_t rfl) (fun _ => B1.at_ rfl)) ?_
  refine sr_sub [(1, _, _), (2, _, _), (3, _, _), (4, _, _), (12, _, _)] (sub_cons rfl (sub_cons rfl (sub_cons rfl (sub_cons rfl (sub_cons rfl (sub_nil _)))))) ?_
  refine sr_nil (hK5 _ _ ?_)
  refine sc_block ?_
  refine sc_seq fun K6 hK6 => ?_
  refine sc_text [3, 3] ?_
  refine sr_pu rfl (fun _ => rd_eq (ev_t rfl) ev_c) ?_
  refine sr_pu rfl (fun _ => rd_assign (ev_t rfl)) ?_
  refine sr_sub [(1, _, _), (2, _, _), (3, _, _), (4, _, _), (12, _, _), (13, _, _)] (sub_cons rfl (sub_cons rfl (sub_cons rfl (sub_cons rfl (sub_cons rfl (sub_cons rfl (sub_nil _))))))) ?_
  refine sr_nil (hK6 _ _ ?_)
  refine sc_cond (ev_t rfl) (fun h1 => ?_) (fun h1 => ?_)
  · (try simp only [bsimp] at h1)
    refine sc_seq fun K7 hK7 => ?_
    refine sc_text [3, 3, 3, 3, 3, 3, 3, 0, 3, 3, 3] ?_
    refine sr_pu rfl (fun _ => rd_move (ev_t rfl)) ?_
    refine sr_pu rfl (fun _ => rd_move (ev_t rfl)) ?_
    refine sr_pug rfl rfl rfl (fun _ => rd_move (ev_t rfl)) ?_
    refine sr_pug rfl rfl rfl (fun _ => rd_eq (ev_u rfl id) ev_c) ?_
    refine sr_pu rfl (fun _ => rd_pick_and (ev_t rfl) (ev_u rfl id)) ?_
    refine sr_pu rfl (fun _ => rd_move (ev_t rfl)) ?_
    refine sr_pug rfl rfl rfl (fun _ => rd_field fo_api_Node_2 (ev_t rfl)) ?_
    refine sr_rdg rfl rfl rfl (rd_load one_int (ev_u rfl id) (fun _ => B1.at_ rfl)) ?_
    refine sr_pug rfl rfl rfl (fun _ => rd_ge (ev_u rfl id) ev_c) ?_
    refine sr_pu rfl (fun _ => rd_pick_and (ev_t rfl) (ev_u rfl id)) ?_
    refine sr_pu rfl (fun _ => rd_assign (ev_t rfl)) ?_
    refine sr_sub [(2, _, _)] (sub_cons rfl (sub_nil _)) ?_
    refine sr_nil (hK7 _ _ ?_)
    refine sc_ret (t_ret1 rfl rfl ?_)
    refine ⟨congrArg Value.bool ?_, g⟩
    unfold refExpr; simp only [anyK, h1, cond_true, cond_false] <;> rfl
  · (try simp only [bsimp] at h1)
    refine sc_seq fun K8 hK8 => ?_
    refine sc_text [3, 3] ?_
    refine sr_pu rfl (fun _ => rd_eq (ev_t rfl) ev_c) ?_
    refine sr_pu rfl (fun _ => rd_assign (ev_t rfl)) ?_
    refine sr_sub [(1, _, _), (2, _, _), (3, _, _), (4, _, _), (12, _, _), (25, _, _)] (sub_cons rfl (sub_cons rfl (sub_cons rfl (sub_cons rfl (sub_cons rfl (sub_cons rfl (sub_nil _))))))) ?_
    refine sr_nil (hK8 _ _ ?_)
    refine sc_cond (ev_t rfl) (fun h2 => ?_) (fun h2 => ?_)
    · (try simp only [bsimp] at h2)
      refine sc_seq fun K9 hK9 => ?_
      refine sc_text [3, 3, 3, 3, 3, 3, 3, 0, 3, 3, 3, 0, 3, 3, 3, 3] ?_
      refine sr_pu rfl (fun _ => rd_move (ev_t rfl)) ?_
      refine sr_pu rfl (fun _ => rd_move (ev_t rfl)) ?_
      refine sr_pug rfl rfl rfl (fun _ => rd_move (ev_t rfl)) ?_
      refine sr_pug rfl rfl rfl (fun _ => rd_eq (ev_u rfl id) ev_c) ?_
      refine sr_pu rfl (fun _ => rd_pick_and (ev_t rfl) (ev_u rfl id)) ?_
      refine sr_pu rfl (fun _ => rd_move (ev_t rfl)) ?_
      refine sr_pug rfl rfl rfl (fun _ => rd_field fo_api_Node_2 (ev_t rfl)) ?_
      refine sr_rdg rfl rfl rfl (rd_load one_int (ev_u rfl id) (fun _ => B1.at_ rfl)) ?_
      refine sr_pug rfl rfl rfl (fun _ => rd_eq (ev_u rfl id) ev_c) ?_
      refine sr_pug rfl rfl rfl (fun _ => rd_move (ev_u rfl id)) ?_
      refine sr_pug rfl rfl rfl (fun _ => rd_field fo_api_Node_2 (ev_t rfl)) ?_
      refine sr_rdg rfl rfl rfl (rd_load one_int (ev_u rfl id) (fun _ => B1.at_ rfl)) ?_
      refine sr_pug rfl rfl rfl (fun _ => rd_eq (ev_u rfl id) ev_c) ?_
      refine sr_pug rfl rfl rfl (fun _ => rd_pick_or (ev_u rfl id) (ev_u rfl id)) ?_
      refine sr_pu rfl (fun _ => rd_pick_and (ev_t rfl) (ev_u rfl id)) ?_
      refine sr_pu rfl (fun _ => rd_assign (ev_t rfl)) ?_
      refine sr_sub [(2, _, _)] (sub_cons rfl (sub_nil _)) ?_
      refine sr_nil (hK9 _ _ ?_)
      refine sc_ret (t_ret1 rfl rfl ?_)
      refine ⟨congrArg Value.bool ?_, g⟩
      unfold refExpr; simp only [anyK, h1, h2, cond_true, cond_false] <;> rfl
    · (try simp only [bsimp] at h2)
      refine sc_seq fun K10 hK10 => ?_
      refine sc_text [3, 3] ?_
      refine sr_pu rfl (fun _ => rd_eq (ev_t rfl) ev_c) ?_
      refine sr_pu rfl (fun _ => rd_assign (ev_t rfl)) ?_
      refine sr_sub [(1, _, _), (2, _, _), (3, _, _), (4, _, _), (12, _, _), (42, _, _)] (sub_cons rfl (sub_cons rfl (sub_cons rfl (sub_cons rfl (sub_cons rfl (sub_cons rfl (sub_nil _))))))) ?_
      refine sr_nil (hK10 _ _ ?_)
      refine sc_cond (ev_t rfl) (fun h3 => ?_) (fun h3 => ?_)
      · (try simp only [bsimp] at h3)
        refine sc_seq fun K11 hK11 => ?_
        refine sc_text [3, 3, 3, 3, 3, 3] ?_
        refine sr_pu rfl (fun _ => rd_move (ev_t rfl)) ?_
        refine sr_pu rfl (fun _ => rd_move (ev_t rfl)) ?_
        refine sr_pug rfl rfl rfl (fun _ => rd_move (ev_t rfl)) ?_
        refine sr_pug rfl rfl rfl (fun _ => rd_eq (ev_u rfl id) ev_c) ?_
        refine sr_pu rfl (fun _ => rd_pick_and (ev_t rfl) (ev_u rfl id)) ?_
        refine sr_pu rfl (fun _ => rd_assign (ev_t rfl)) ?_
        refine sr_sub [(2, _, _)] (sub_cons rfl (sub_nil _)) ?_
        refine sr_nil (hK11 _ _ ?_)
        refine sc_ret (t_ret1 rfl rfl ?_)
        refine ⟨congrArg Value.bool ?_, g⟩
        unfold refExpr; simp only [anyK, h1, h2, h3, cond_true, cond_false] <;> rfl
      · (try simp only [bsimp] at h3)
        refine sc_seq fun K12 hK12 => ?_
        refine sc_seq fun K13 hK13 => ?_
        refine sc_text [3, 3] ?_
        refine sr_pu rfl (fun _ => rd_eq (ev_t rfl) ev_c) ?_
        refine sr_pu rfl (fun _ => rd_assign (ev_t rfl)) ?_
        refine sr_sub [(1, _, _), (2, _, _), (3, _, _), (4, _, _), (12, _, _), (49, _, _)] (sub_cons rfl (sub_cons rfl (sub_cons rfl (sub_cons rfl (sub_cons rfl (sub_cons rfl (sub_nil _))))))) ?_
        refine sr_nil (hK13 _ _ ?_)
        refine' sc_or [(1, _, _), (2, _, _), (3, _, _), (4, _, _), (12, _, _)] (sub_cons rfl (sub_cons rfl (sub_cons rfl (sub_cons rfl (sub_cons rfl (sub_cons rfl (sub_nil _))))))) rfl (fun hb4 => ?y4) (hK12 _ _ ?n4)
        case y4 =>
         refine sc_text [3, 3] ?_
         refine sr_pu rfl (fun _ => rd_eq (ev_t rfl) ev_c) ?_
         refine sr_pu rfl (fun _ => rd_assign (ev_t rfl)) ?_
         refine sr_sub [(49, _, _), (1, _, _), (2, _, _), (3, _, _), (4, _, _), (12, _, _)] (sub_cons rfl (sub_cons rfl (sub_cons rfl (sub_cons rfl (sub_cons rfl (sub_cons rfl (sub_nil _))))))) ?_
         exact sr_nil (fun a ha => ⟨ha, rfl⟩)
        case n4 =>
         refine sc_cond (ev_t rfl) (fun h5 => ?_) (fun h5 => ?_)
         · (try simp only [bsimp] at h5)
           refine sc_seq fun K14 hK14 => ?_
           refine sc_text [3, 0, 1, 3, 3, 3, 3, 3] ?_
           refine sr_pu rfl (fun _ => rd_field fo_api_Node_1 (ev_t rfl)) ?_
           refine sr_rd rfl (rd_load one_string (ev_t rfl) (fun _ => B1.at_ rfl)) ?_
           refine sr_pure rfl (rc_call go_r02_Name ev_f (args_cons (ev_t rfl) (args_nil)) rfl) (rname_ok _ _) (fun w54 g54 => ?_)
           have g := g.trans (g54)
           replace B1 := B1.grow (g54)
           refine sr_pu rfl (fun _ => rd_move (ev_t rfl)) ?_
           refine sr_pug rfl rfl rfl (fun _ => rd_move (ev_t rfl)) ?_
           refine sr_pug rfl rfl rfl (fun _ => rd_eq (ev_u rfl id) ev_c) ?_
           refine sr_pu rfl (fun _ => rd_pick_and (ev_t rfl) (ev_u rfl id)) ?_
           refine sr_pu rfl (fun _ => rd_assign (ev_t rfl)) ?_
           refine sr_sub [(2, _, _)] (sub_cons rfl (sub_nil _)) ?_
           refine sr_nil (hK14 _ _ ?_)
           refine sc_ret (t_ret1 rfl rfl ?_)
           refine ⟨congrArg Value.bool ?_, g⟩
           unfold refExpr; simp only [anyK, h1, h2, h3, h5, cond_true, cond_false] <;> rfl
         · (try simp only [bsimp] at h5)
           refine sc_seq fun K15 hK15 => ?_
           refine sc_text [3, 3] ?_
           refine sr_pu rfl (fun _ => rd_eq (ev_t rfl) ev_c) ?_
           refine sr_pu rfl (fun _ => rd_assign (ev_t rfl)) ?_
           refine sr_sub [(1, _, _), (2, _, _), (3, _, _), (4, _, _), (12, _, _), (59, _, _)] (sub_cons rfl (sub_cons rfl (sub_cons rfl (sub_cons rfl (sub_cons rfl (sub_cons rfl (sub_nil _))))))) ?_
           refine sr_nil (hK15 _ _ ?_)
           refine sc_cond (ev_t rfl) (fun h6 => ?_) (fun h6 => ?_)
           · (try simp only [bsimp] at h6)
             refine sc_seq fun K16 hK16 => ?_
             refine sc_text [3, 0, 1, 3, 3, 3, 3, 3, 3, 0, 3, 0, 1, 3, 3] ?_
             refine sr_pu rfl (fun _ => rd_field fo_api_Node_1 (ev_t rfl)) ?_
             refine sr_rd rfl (rd_load one_string (ev_t rfl) (fun _ => B1.at_ rfl)) ?_
             refine sr_pure rfl (rc_call go_r02_Name ev_f (args_cons (ev_t rfl) (args_nil)) rfl) (rname_ok _ _) (fun w63 g63 => ?_)
             have g := g.trans (g63)
             replace B1 := B1.grow (g63)
             refine sr_pu rfl (fun _ => rd_move (ev_t rfl)) ?_
             refine sr_pug rfl rfl rfl (fun _ => rd_move (ev_t rfl)) ?_
             refine sr_pug rfl rfl rfl (fun _ => rd_eq (ev_u rfl id) ev_c) ?_
             refine sr_pu rfl (fun _ => rd_pick_and (ev_t rfl) (ev_u rfl id)) ?_
             refine sr_pu rfl (fun _ => rd_move (ev_t rfl)) ?_
             refine sr_pug rfl rfl rfl (fun _ => rd_field fo_api_Node_4 (ev_t rfl)) ?_
             refine sr_rdg rfl rfl rfl (rd_load one_sl_api_Node (ev_u rfl id) (fun _ => B1.at_ rfl)) ?_
             refine sr_pug rfl rfl rfl (fun _ => rd_idxq el_sl_api_Node (ev_u rfl id) ev_c (fun hc => by (have hz := hc.2; first | (unfold lenK at hz; simp at hz; omega) | (simp at hz; omega))) (fun hc => (h0x (by (have hz := hc.2; first | (unfold lenK at hz; simp at hz; omega) | (simp at hz; omega)))).1)) ?_
             refine sr_rdg rfl rfl rfl (rd_loads agg_api_Node (ev_u rfl id) rfl (fun hc => (h0x (by (have hz := hc.2; first | (unfold lenK at hz; simp at hz; omega) | (simp at hz; omega)))).2.1.grow g)) ?_
             refine sr_pureg rfl rfl rfl (fun _ => (rc_call go_r03_IsExpr ev_f (args_cons (ev_u rfl id) (args_nil)) rfl)) (fun hc => (h0x (by (have hz := hc.2; first | (unfold lenK at hz; simp at hz; omega) | (simp at hz; omega)))).2.2.2.ex _ _ D _ ((h0x (by (have hz := hc.2; first | (unfold lenK at hz; simp at hz; omega) | (simp at hz; omega)))).2.2.1.grow g)) (fun w73 g73 => ?_)
             have g := g.trans (g73)
             replace B1 := B1.grow (g73)
             refine sr_pu rfl (fun _ => rd_pick_and (ev_t rfl) (ev_u rfl id)) ?_
             refine sr_pu rfl (fun _ => rd_assign (ev_t rfl)) ?_
             refine sr_sub [(2, _, _)] (sub_cons rfl (sub_nil _)) ?_
             refine sr_nil (hK16 _ _ ?_)
             refine sc_ret (t_ret1 rfl rfl ?_)
             refine ⟨congrArg Value.bool ?_, g⟩
             unfold refExpr; simp only [anyK, h1, h2, h3, h5, h6, cond_true, cond_false] <;> rfl
           · (try simp only [bsimp] at h6)
             refine sc_seq fun K17 hK17 => ?_
             refine sc_text [3, 3] ?_
             refine sr_pu rfl (fun _ => rd_eq (ev_t rfl) ev_c) ?_
             refine sr_pu rfl (fun _ => rd_assign (ev_t rfl)) ?_
             refine sr_sub [(1, _, _), (2, _, _), (3, _, _), (4, _, _), (12, _, _), (75, _, _)] (sub_cons rfl (sub_cons rfl (sub_cons rfl (sub_cons rfl (sub_cons rfl (sub_cons rfl (sub_nil _))))))) ?_
             refine sr_nil (hK17 _ _ ?_)
             refine sc_cond (ev_t rfl) (fun h7 => ?_) (fun h7 => ?_)
             · (try simp only [bsimp] at h7)
               refine sc_seq fun K18 hK18 => ?_
               refine sc_text [3, 3, 3, 3, 3, 3, 3, 0, 1, 3, 3] ?_
               refine sr_pu rfl (fun _ => rd_move (ev_t rfl)) ?_
               refine sr_pu rfl (fun _ => rd_move (ev_t rfl)) ?_
               refine sr_pug rfl rfl rfl (fun _ => rd_move (ev_t rfl)) ?_
               refine sr_pug rfl rfl rfl (fun _ => rd_eq (ev_u rfl id) ev_c) ?_
               refine sr_pu rfl (fun _ => rd_pick_and (ev_t rfl) (ev_u rfl id)) ?_
               refine sr_pu rfl (fun _ => rd_move (ev_t rfl)) ?_
               refine sr_pug rfl rfl rfl (fun _ => rd_field fo_api_Node_4 (ev_t rfl)) ?_
               refine sr_rdg rfl rfl rfl (rd_load one_sl_api_Node (ev_u rfl id) (fun _ => B1.at_ rfl)) ?_
               refine sr_pureg rfl rfl rfl (fun _ => (rc_call go_r03_expressions ev_f (args_cons (ev_u rfl id) (args_nil)) rfl)) (fun hc => exprs_ok _ _ _ D _ (hk.grow g) hr hln) (fun w85 g85 => ?_)
               have g := g.trans (g85)
               replace B1 := B1.grow (g85)
               refine sr_pu rfl (fun _ => rd_pick_and (ev_t rfl) (ev_u rfl id)) ?_
               refine sr_pu rfl (fun _ => rd_assign (ev_t rfl)) ?_
               refine sr_sub [(2, _, _)] (sub_cons rfl (sub_nil _)) ?_
               refine sr_nil (hK18 _ _ ?_)
               refine sc_ret (t_ret1 rfl rfl ?_)
               refine ⟨congrArg Value.bool ?_, g⟩
               unfold refExpr; simp only [anyK, h1, h2, h3, h5, h6, h7, cond_true, cond_false] <;> rfl
             · (try simp only [bsimp] at h7)
               refine sc_seq fun K19 hK19 => ?_
               refine sc_text [3, 3] ?_
               refine sr_pu rfl (fun _ => rd_eq (ev_t rfl) ev_c) ?_
               refine sr_pu rfl (fun _ => rd_assign (ev_t rfl)) ?_
               refine sr_sub [(1, _, _), (2, _, _), (3, _, _), (4, _, _), (12, _, _), (87, _, _)] (sub_cons rfl (sub_cons rfl (sub_cons rfl (sub_cons rfl (sub_cons rfl (sub_cons rfl (sub_nil _))))))) ?_
               refine sr_nil (hK19 _ _ ?_)
               refine sc_cond (ev_t rfl) (fun h8 => ?_) (fun h8 => ?_)
               · (try simp only [bsimp] at h8)
                 refine sc_seq fun K20 hK20 => ?_
                 refine sc_text [3, 3, 3, 3, 3, 3, 3, 0, 1, 3, 3] ?_
                 refine sr_pu rfl (fun _ => rd_move (ev_t rfl)) ?_
                 refine sr_pu rfl (fun _ => rd_move (ev_t rfl)) ?_
                 refine sr_pug rfl rfl rfl (fun _ => rd_move (ev_t rfl)) ?_
                 refine sr_pug rfl rfl rfl (fun _ => rd_ge (ev_u rfl id) ev_c) ?_
                 refine sr_pu rfl (fun _ => rd_pick_and (ev_t rfl) (ev_u rfl id)) ?_
                 refine sr_pu rfl (fun _ => rd_move (ev_t rfl)) ?_
                 refine sr_pug rfl rfl rfl (fun _ => rd_field fo_api_Node_4 (ev_t rfl)) ?_
                 refine sr_rdg rfl rfl rfl (rd_load one_sl_api_Node (ev_u rfl id) (fun _ => B1.at_ rfl)) ?_
                 refine sr_pureg rfl rfl rfl (fun _ => (rc_call go_r03_expressions ev_f (args_cons (ev_u rfl id) (args_nil)) rfl)) (fun hc => exprs_ok _ _ _ D _ (hk.grow g) hr hln) (fun w97 g97 => ?_)
                 have g := g.trans (g97)
                 replace B1 := B1.grow (g97)
                 refine sr_pu rfl (fun _ => rd_pick_and (ev_t rfl) (ev_u rfl id)) ?_
                 refine sr_pu rfl (fun _ => rd_assign (ev_t rfl)) ?_
                 refine sr_sub [(2, _, _)] (sub_cons rfl (sub_nil _)) ?_
                 refine sr_nil (hK20 _ _ ?_)
                 refine sc_ret (t_ret1 rfl rfl ?_)
                 refine ⟨congrArg Value.bool ?_, g⟩
                 unfold refExpr; simp only [anyK, h1, h2, h3, h5, h6, h7, h8, cond_true, cond_false] <;> rfl
               · (try simp only [bsimp] at h8)
                 refine sc_seq fun K21 hK21 => ?_
                 refine sc_text [3, 3] ?_
                 refine sr_pu rfl (fun _ => rd_eq (ev_t rfl) ev_c) ?_
                 refine sr_pu rfl (fun _ => rd_assign (ev_t rfl)) ?_
                 refine sr_sub [(1, _, _), (2, _, _), (3, _, _), (4, _, _), (12, _, _), (99, _, _)] (sub_cons rfl (sub_cons rfl (sub_cons rfl (sub_cons rfl (sub_cons rfl (sub_cons rfl (sub_nil _))))))) ?_
                 refine sr_nil (hK21 _ _ ?_)
                 refine sc_cond (ev_t rfl) (fun h9 => ?_) (fun h9 => ?_)
                 · (try simp only [bsimp] at h9)
                   refine sc_seq fun K22 hK22 => ?_
                   refine sc_text [3, 0, 3, 3, 3, 0, 3, 3, 3, 3, 3, 3, 3, 3, 0, 3, 0, 1, 3, 3] ?_
                   refine sr_pu rfl (fun _ => rd_field fo_api_Node_1 (ev_t rfl)) ?_
                   refine sr_rd rfl (rd_load one_string (ev_t rfl) (fun _ => B1.at_ rfl)) ?_
                   refine sr_pu rfl (fun _ => rd_seq (ev_t rfl) ev_c) ?_
                   refine sr_pu rfl (fun _ => rd_move (ev_t rfl)) ?_
                   refine sr_pug rfl rfl rfl (fun _ => rd_field fo_api_Node_1 (ev_t rfl)) ?_
                   refine sr_rdg rfl rfl rfl (rd_load one_string (ev_u rfl id) (fun _ => B1.at_ rfl)) ?_
                   refine sr_pug rfl rfl rfl (fun _ => rd_seq (ev_u rfl id) ev_c) ?_
                   refine sr_pu rfl (fun _ => rd_pick_or (ev_t rfl) (ev_u rfl id)) ?_
                   refine sr_pu rfl (fun _ => rd_move (ev_t rfl)) ?_
                   refine sr_pug rfl rfl rfl (fun _ => rd_move (ev_t rfl)) ?_
                   refine sr_pug rfl rfl rfl (fun _ => rd_eq (ev_u rfl id) ev_c) ?_
                   refine sr_pu rfl (fun _ => rd_pick_and (ev_t rfl) (ev_u rfl id)) ?_
                   refine sr_pu rfl (fun _ => rd_move (ev_t rfl)) ?_
                   refine sr_pug rfl rfl rfl (fun _ => rd_field fo_api_Node_4 (ev_t rfl)) ?_
                   refine sr_rdg rfl rfl rfl (rd_load one_sl_api_Node (ev_u rfl id) (fun _ => B1.at_ rfl)) ?_
                   refine sr_pug rfl rfl rfl (fun _ => rd_idxq el_sl_api_Node (ev_u rfl id) ev_c (fun hc => by (have hz := hc.2; first | (unfold lenK at hz; simp at hz; omega) | (simp at hz; omega))) (fun hc => (h0x (by (have hz := hc.2; first | (unfold lenK at hz; simp at hz; omega) | (simp at hz; omega)))).1)) ?_
                   refine sr_rdg rfl rfl rfl (rd_loads agg_api_Node (ev_u rfl id) rfl (fun hc => (h0x (by (have hz := hc.2; first | (unfold lenK at hz; simp at hz; omega) | (simp at hz; omega)))).2.1.grow g)) ?_
                   refine sr_pureg rfl rfl rfl (fun _ => (rc_call go_r03_IsExpr ev_f (args_cons (ev_u rfl id) (args_nil)) rfl)) (fun hc => (h0x (by (have hz := hc.2; first | (unfold lenK at hz; simp at hz; omega) | (simp at hz; omega)))).2.2.2.ex _ _ D _ ((h0x (by (have hz := hc.2; first | (unfold lenK at hz; simp at hz; omega) | (simp at hz; omega)))).2.2.1.grow g)) (fun w118 g118 => ?_)
                   have g := g.trans (g118)
                   replace B1 := B1.grow (g118)
                   refine sr_pu rfl (fun _ => rd_pick_and (ev_t rfl) (ev_u rfl id)) ?_
                   refine sr_pu rfl (fun _ => rd_assign (ev_t rfl)) ?_
                   refine sr_sub [(2, _, _)] (sub_cons rfl (sub_nil _)) ?_
                   refine sr_nil (hK22 _ _ ?_)
                   refine sc_ret (t_ret1 rfl rfl ?_)
                   refine ⟨congrArg Value.bool ?_, g⟩
                   unfold refExpr; simp only [anyK, h1, h2, h3, h5, h6, h7, h8, h9, cond_true, cond_false] <;> rfl
                 · (try simp only [bsimp] at h9)
                   refine sc_seq fun K23 hK23 => ?_
                   refine sc_text [3, 3] ?_
                   refine sr_pu rfl (fun _ => rd_eq (ev_t rfl) ev_c) ?_
                   refine sr_pu rfl (fun _ => rd_assign (ev_t rfl)) ?_
                   refine sr_sub [(1, _, _), (2, _, _), (3, _, _), (4, _, _), (12, _, _), (120, _, _)] (sub_cons rfl (sub_cons rfl (sub_cons rfl (sub_cons rfl (sub_cons rfl (sub_cons rfl (sub_nil _))))))) ?_
                   refine sr_nil (hK23 _ _ ?_)
                   refine sc_cond (ev_t rfl) (fun h10 => ?_) (fun h10 => ?_)
                   · (try simp only [bsimp] at h10)
                     refine sc_seq fun K24 hK24 => ?_
                     refine sc_text [3, 0, 1, 3, 3, 3, 3, 3, 3, 0, 1, 3, 3] ?_
                     refine sr_pu rfl (fun _ => rd_field fo_api_Node_1 (ev_t rfl)) ?_
                     refine sr_rd rfl (rd_load one_string (ev_t rfl) (fun _ => B1.at_ rfl)) ?_
                     refine sr_pure rfl (rc_call go_r03_BinaryOp ev_f (args_cons (ev_t rfl) (args_nil)) rfl) (binop_ok _ _) (fun w124 g124 => ?_)
                     have g := g.trans (g124)
                     replace B1 := B1.grow (g124)
                     refine sr_pu rfl (fun _ => rd_move (ev_t rfl)) ?_
                     refine sr_pug rfl rfl rfl (fun _ => rd_move (ev_t rfl)) ?_
                     refine sr_pug rfl rfl rfl (fun _ => rd_eq (ev_u rfl id) ev_c) ?_
                     refine sr_pu rfl (fun _ => rd_pick_and (ev_t rfl) (ev_u rfl id)) ?_
                     refine sr_pu rfl (fun _ => rd_move (ev_t rfl)) ?_
                     refine sr_pug rfl rfl rfl (fun _ => rd_field fo_api_Node_4 (ev_t rfl)) ?_
                     refine sr_rdg rfl rfl rfl (rd_load one_sl_api_Node (ev_u rfl id) (fun _ => B1.at_ rfl)) ?_
                     refine sr_pureg rfl rfl rfl (fun _ => (rc_call go_r03_expressions ev_f (args_cons (ev_u rfl id) (args_nil)) rfl)) (fun hc => exprs_ok _ _ _ D _ (hk.grow g) hr hln) (fun w132 g132 => ?_)
                     have g := g.trans (g132)
                     replace B1 := B1.grow (g132)
                     refine sr_pu rfl (fun _ => rd_pick_and (ev_t rfl) (ev_u rfl id)) ?_
                     refine sr_pu rfl (fun _ => rd_assign (ev_t rfl)) ?_
                     refine sr_sub [(2, _, _)] (sub_cons rfl (sub_nil _)) ?_
                     refine sr_nil (hK24 _ _ ?_)
                     refine sc_ret (t_ret1 rfl rfl ?_)
                     refine ⟨congrArg Value.bool ?_, g⟩
                     unfold refExpr; simp only [anyK, h1, h2, h3, h5, h6, h7, h8, h9, h10, cond_true, cond_false] <;> rfl
                   · (try simp only [bsimp] at h10)
                     refine sc_seq fun K25 hK25 => ?_
                     refine sc_seq fun K26 hK26 => ?_
                     refine sc_text [3, 3] ?_
                     refine sr_pu rfl (fun _ => rd_eq (ev_t rfl) ev_c) ?_
                     refine sr_pu rfl (fun _ => rd_assign (ev_t rfl)) ?_
                     refine sr_sub [(1, _, _), (2, _, _), (3, _, _), (4, _, _), (12, _, _), (134, _, _)] (sub_cons rfl (sub_cons rfl (sub_cons rfl (sub_cons rfl (sub_cons rfl (sub_cons rfl (sub_nil _))))))) ?_
                     refine sr_nil (hK26 _ _ ?_)
                     refine' sc_or [(1, _, _), (2, _, _), (3, _, _), (4, _, _), (12, _, _)] (sub_cons rfl (sub_cons rfl (sub_cons rfl (sub_cons rfl (sub_cons rfl (sub_cons rfl (sub_nil _))))))) rfl (fun hb11 => ?y11) (hK25 _ _ ?n11)
                     case y11 =>
                      refine sc_seq fun K27 hK27 => ?_
                      refine sc_text [3, 3] ?_
                      refine sr_pu rfl (fun _ => rd_eq (ev_t rfl) ev_c) ?_
                      refine sr_pu rfl (fun _ => rd_assign (ev_t rfl)) ?_
                      refine sr_sub [(1, _, _), (2, _, _), (3, _, _), (4, _, _), (12, _, _), (134, _, _)] (sub_cons rfl (sub_cons rfl (sub_cons rfl (sub_cons rfl (sub_cons rfl (sub_cons rfl (sub_nil _))))))) ?_
                      refine sr_nil (hK27 _ _ ?_)
                      refine' sc_or [(1, _, _), (2, _, _), (3, _, _), (4, _, _), (12, _, _)] (sub_cons rfl (sub_cons rfl (sub_cons rfl (sub_cons rfl (sub_cons rfl (sub_cons rfl (sub_nil _))))))) rfl (fun hb12 => ?y12) (fun a ha => ⟨ha, rfl⟩)
                      case y12 =>
                       refine sc_seq fun K28 hK28 => ?_
                       refine sc_text [3, 3] ?_
                       refine sr_pu rfl (fun _ => rd_eq (ev_t rfl) ev_c) ?_
                       refine sr_pu rfl (fun _ => rd_assign (ev_t rfl)) ?_
                       refine sr_sub [(1, _, _), (2, _, _), (3, _, _), (4, _, _), (12, _, _), (134, _, _)] (sub_cons rfl (sub_cons rfl (sub_cons rfl (sub_cons rfl (sub_cons rfl (sub_cons rfl (sub_nil _))))))) ?_
                       refine sr_nil (hK28 _ _ ?_)
                       refine' sc_or [(1, _, _), (2, _, _), (3, _, _), (4, _, _), (12, _, _)] (sub_cons rfl (sub_cons rfl (sub_cons rfl (sub_cons rfl (sub_cons rfl (sub_cons rfl (sub_nil _))))))) rfl (fun hb13 => ?y13) (fun a ha => ⟨ha, rfl⟩)
                       case y13 =>
                        refine sc_text [3, 3] ?_
                        refine sr_pu rfl (fun _ => rd_eq (ev_t rfl) ev_c) ?_
                        refine sr_pu rfl (fun _ => rd_assign (ev_t rfl)) ?_
                        refine sr_sub [(134, _, _), (1, _, _), (2, _, _), (3, _, _), (4, _, _), (12, _, _)] (sub_cons rfl (sub_cons rfl (sub_cons rfl (sub_cons rfl (sub_cons rfl (sub_cons rfl (sub_nil _))))))) ?_
                        exact sr_nil (fun a ha => ⟨ha, rfl⟩)
                     case n11 =>
                      refine sc_cond (ev_t rfl) (fun h14 => ?_) (fun h14 => ?_)
                      · (try simp only [bsimp] at h14)
                        refine sc_seq fun K29 hK29 => ?_
                        refine sc_text [3, 3, 3, 3, 3, 3, 3, 0, 3, 0, 1, 3, 3] ?_
                        refine sr_pu rfl (fun _ => rd_move (ev_t rfl)) ?_
                        refine sr_pu rfl (fun _ => rd_move (ev_t rfl)) ?_
                        refine sr_pug rfl rfl rfl (fun _ => rd_move (ev_t rfl)) ?_
                        refine sr_pug rfl rfl rfl (fun _ => rd_eq (ev_u rfl id) ev_c) ?_
                        refine sr_pu rfl (fun _ => rd_pick_and (ev_t rfl) (ev_u rfl id)) ?_
                        refine sr_pu rfl (fun _ => rd_move (ev_t rfl)) ?_
                        refine sr_pug rfl rfl rfl (fun _ => rd_field fo_api_Node_4 (ev_t rfl)) ?_
                        refine sr_rdg rfl rfl rfl (rd_load one_sl_api_Node (ev_u rfl id) (fun _ => B1.at_ rfl)) ?_
                        refine sr_pug rfl rfl rfl (fun _ => rd_idxq el_sl_api_Node (ev_u rfl id) ev_c (fun hc => by (have hz := hc.2; first | (unfold lenK at hz; simp at hz; omega) | (simp at hz; omega))) (fun hc => (h0x (by (have hz := hc.2; first | (unfold lenK at hz; simp at hz; omega) | (simp at hz; omega)))).1)) ?_
                        refine sr_rdg rfl rfl rfl (rd_loads agg_api_Node (ev_u rfl id) rfl (fun hc => (h0x (by (have hz := hc.2; first | (unfold lenK at hz; simp at hz; omega) | (simp at hz; omega)))).2.1.grow g)) ?_
                        refine sr_pureg rfl rfl rfl (fun _ => (rc_call go_r03_IsExpr ev_f (args_cons (ev_u rfl id) (args_nil)) rfl)) (fun hc => (h0x (by (have hz := hc.2; first | (unfold lenK at hz; simp at hz; omega) | (simp at hz; omega)))).2.2.2.ex _ _ D _ ((h0x (by (have hz := hc.2; first | (unfold lenK at hz; simp at hz; omega) | (simp at hz; omega)))).2.2.1.grow g)) (fun w149 g149 => ?_)
                        have g := g.trans (g149)
                        replace B1 := B1.grow (g149)
                        refine sr_pu rfl (fun _ => rd_pick_and (ev_t rfl) (ev_u rfl id)) ?_
                        refine sr_pu rfl (fun _ => rd_assign (ev_t rfl)) ?_
                        refine sr_sub [(2, _, _)] (sub_cons rfl (sub_nil _)) ?_
                        refine sr_nil (hK29 _ _ ?_)
                        refine sc_ret (t_ret1 rfl rfl ?_)
                        refine ⟨congrArg Value.bool ?_, g⟩
                        unfold refExpr; simp only [anyK, h1, h2, h3, h5, h6, h7, h8, h9, h10, h14, cond_true, cond_false] <;> rfl
                      · (try simp only [bsimp] at h14)
                        refine sc_seq fun K30 hK30 => ?_
                        refine sc_text [3, 3] ?_
                        refine sr_pu rfl (fun _ => rd_eq (ev_t rfl) ev_c) ?_
                        refine sr_pu rfl (fun _ => rd_assign (ev_t rfl)) ?_
                        refine sr_sub [(1, _, _), (2, _, _), (3, _, _), (4, _, _), (151, _, _)] (sub_cons rfl (sub_cons rfl (sub_cons rfl (sub_cons rfl (sub_cons rfl (sub_nil _)))))) ?_
                        refine sr_nil (hK30 _ _ ?_)
                        refine sc_cond (ev_t rfl) (fun h15 => ?_) (fun h15 => ?_)
                        · (try simp only [bsimp] at h15)
                          refine sc_seq fun K31 hK31 => ?_
                          refine sc_text [3, 3, 3, 3, 3, 3, 3, 0, 3, 0, 1, 3, 3] ?_
                          refine sr_pu rfl (fun _ => rd_move (ev_t rfl)) ?_
                          refine sr_pu rfl (fun _ => rd_move (ev_t rfl)) ?_
                          refine sr_pug rfl rfl rfl (fun _ => rd_move (ev_t rfl)) ?_
                          refine sr_pug rfl rfl rfl (fun _ => rd_eq (ev_u rfl id) ev_c) ?_
                          refine sr_pu rfl (fun _ => rd_pick_and (ev_t rfl) (ev_u rfl id)) ?_
                          refine sr_pu rfl (fun _ => rd_move (ev_t rfl)) ?_
                          refine sr_pug rfl rfl rfl (fun _ => rd_field fo_api_Node_4 (ev_t rfl)) ?_
                          refine sr_rdg rfl rfl rfl (rd_load one_sl_api_Node (ev_u rfl id) (fun _ => B1.at_ rfl)) ?_
                          refine sr_pug rfl rfl rfl (fun _ => rd_idxq el_sl_api_Node (ev_u rfl id) ev_c (fun hc => by (have hz := hc.2; first | (unfold lenK at hz; simp at hz; omega) | (simp at hz; omega))) (fun hc => (h0x (by (have hz := hc.2; first | (unfold lenK at hz; simp at hz; omega) | (simp at hz; omega)))).1)) ?_
                          refine sr_rdg rfl rfl rfl (rd_loads agg_api_Node (ev_u rfl id) rfl (fun hc => (h0x (by (have hz := hc.2; first | (unfold lenK at hz; simp at hz; omega) | (simp at hz; omega)))).2.1.grow g)) ?_
                          refine sr_pureg rfl rfl rfl (fun _ => (rc_call go_r03_isBlock ev_f (args_cons (ev_u rfl id) (args_nil)) rfl)) (fun hc => (h0x (by (have hz := hc.2; first | (unfold lenK at hz; simp at hz; omega) | (simp at hz; omega)))).2.2.2.bl _ _ D _ ((h0x (by (have hz := hc.2; first | (unfold lenK at hz; simp at hz; omega) | (simp at hz; omega)))).2.2.1.grow g)) (fun w163 g163 => ?_)
                          have g := g.trans (g163)
                          replace B1 := B1.grow (g163)
                          refine sr_pu rfl (fun _ => rd_pick_and (ev_t rfl) (ev_u rfl id)) ?_
                          refine sr_pu rfl (fun _ => rd_assign (ev_t rfl)) ?_
                          refine sr_sub [(2, _, _)] (sub_cons rfl (sub_nil _)) ?_
                          refine sr_nil (hK31 _ _ ?_)
                          refine sc_ret (t_ret1 rfl rfl ?_)
                          refine ⟨congrArg Value.bool ?_, g⟩
                          unfold refExpr; simp only [anyK, h1, h2, h3, h5, h6, h7, h8, h9, h10, h14, h15, cond_true, cond_false] <;> rfl
                        · (try simp only [bsimp] at h15)
                          refine sc_skip (hK4 _ _ ?_)
                          refine sc_sub [(2, _, _)] (sub_cons rfl (sub_nil _)) ?_
                          refine sc_seq fun K32 hK32 => ?_
                          refine sc_text [3] ?_
                          refine sr_pu rfl (fun _ => rd_assign ev_c) ?_
                          refine sr_nil (hK32 _ _ ?_)
                          refine sc_ret (t_ret1 rfl rfl ?_)
                          refine ⟨congrArg Value.bool ?_, g⟩
                          unfold refExpr; simp only [anyK, h1, h2, h3, h5, h6, h7, h8, h9, h10, h14, h15, cond_true, cond_false] <;> rfl
end Go.Rk
