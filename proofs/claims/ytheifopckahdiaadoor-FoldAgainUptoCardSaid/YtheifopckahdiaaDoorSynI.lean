/- Syntax: the reference's declarations, files, depth. Conditions: none. -/
import Derived.Test.YtheifopckahdiaaDoorSynH
import Derived.Test.YtheifopckahdiaaDoorMax
namespace Go.Rk
open Go Go.RowKit
def fieldB (t : Nd) : Bool := decide (t.kind = 3) && permF t
theorem fieldB_not (t : Nd) : (!fieldB t) = (((!decide (t.kind = 3) || !nameB t.text) || !lenK t 1) || !isTypeB (kidAt t 0)) := by
  have e : fieldB t = (((decide (t.kind = 3) && nameB t.text) && lenK t 1) && isTypeB (kidAt t 0)) := by
    rw [fieldB]
    by_cases h : t.kind = 3
    · rw [permF_eq, locB, textB', formB, h, isTypeB_eq]; exact congrArg (true && ·) (fl1 (X := nameB t.text) (q := typK)).symm |>.trans (by rfl)
    · rw [decide_eq_false h]; rfl
  rw [e]
  cases decide (t.kind = 3) <;> cases nameB t.text <;> cases lenK t 1 <;> cases isTypeB (kidAt t 0) <;> rfl
def declB (t : Nd) : Bool := (memK [2, 6, 4] t.kind && permF t) && !fileVarB t
def refDecl (t : Nd) : Bool :=
  bif decide (t.kind = 2) then nameB t.text && t.kids.all fieldB
  else bif decide (t.kind = 6) then varB t && noneB (kidAt t 1)
  else bif decide (t.kind = 4) then
    bif !nameB t.text || !lenK t 3 then false else (((decide ((kidAt t 0).kind = 5) && plainB (kidAt t 0)) && (kidAt t 0).kids.all fieldB) && (noneB (kidAt t 1) || isTypeB (kidAt t 1))) && blockB (kidAt t 2)
  else false
theorem all_field {t : Nd} : (everyB t (memK [3]) && t.kids.all permF) = t.kids.all fieldB := by
  rw [every_all]; congr 1; funext k; rw [memK_one]; rfl
theorem params_eq (t : Nd) : ((decide (t.kind = 5) && plainB t) && t.kids.all fieldB) = (memK [5] t.kind && permF t) := by
  rw [memK_one]
  by_cases h : t.kind = 5
  · rw [permF_eq t, locB, textB', formB, h, Bool.and_assoc]; exact congrArg (true && ·) (by rw [← all_field, ← Bool.and_assoc]; rfl)
  · rw [decide_eq_false h]; rfl
theorem refDecl_eq (t : Nd) : refDecl t = declB t := by
  rw [refDecl, declB]
  by_cases h : t.kind = 2
  · rw [permF_eq t, locB, textB', formB, fileVarB, h]
    refine Eq.trans (b := (nameB t.text && everyB t (memK [3])) && t.kids.all permF) ?_ (Eq.trans (Bool.and_true _).symm rfl)
    rw [Bool.and_assoc (nameB t.text) (everyB t _), all_field]; rfl
  by_cases h1 : t.kind = 6
  · rw [varB, fileVarB, h1]
    refine Eq.trans (b := permF t && noneB (kidAt t 1)) rfl (Eq.trans (b := permF t && !(!lenK t 2 || !decide ((kidAt t 1).kind = 9))) ?_ rfl)
    rw [noneB_eq]
    cases hp : permF t with
    | false => rfl
    | true =>
      have hl := perm_len2 (.inr h1) hp
      have hk : permF (kidAt t 1) = true := by
        rw [permF_eq, Bool.and_eq_true, List.all_eq_true] at hp
        rw [kidAt_eq (by omega)]; exact hp.2 _ (List.getElem_mem _)
      rw [hk, show lenK t 2 = true by rw [lenK, decide_eq_true_eq]; omega]
      cases decide ((kidAt t 1).kind = 9) <;> rfl
  by_cases h2 : t.kind = 4
  · rw [params_eq, permF_eq t, locB, textB', formB, fileVarB, h2]
    refine Eq.trans (b := bif !nameB t.text || !lenK t 3 then false else ((memK [5] (kidAt t 0).kind && permF (kidAt t 0)) && (noneB (kidAt t 1) || isTypeB (kidAt t 1))) && blockB (kidAt t 2)) rfl (Eq.trans (b := (nameB t.text && kidsB t [memK [5], fun k => typK k || memK [9] k, memK [10]]) && t.kids.all permF) ?_ (Eq.trans (Bool.and_true _).symm rfl))
    rw [not_if2, Bool.and_assoc (nameB t.text) (kidsB t _), kids_3, noneB_eq, isTypeB_eq, or_two, blockB, memK_one 9, memK_one 10]
    ac_rfl
  simp only [memK, List.mem_cons, List.not_mem_nil, h, h1, h2, decide_false, or_false, cond_false, Bool.false_and]
theorem fields_ok (l : List Nd) (p : Option Addr) (c : Nat) (D : Nat → Prop) (w : World) (hk : Kd w D l (.slice p l.length c)) (hln : l.length ≤ 1000000) : Ret PP fn_r03_fields #[.slice p l.length c] w fun r w' => r = .bool (l.all fieldB) ∧ G w w' := by
  have g := G.refl w
  obtain ⟨p', c', hpe, _, hks⟩ := hk
  injection hpe with hpe _ hce
  subst hpe hce
  refine ret_of_sc (m := 45) func_r03_fields rfl rfl [(0, True, _)] (sub_cons rfl (sub_nil _)) ?_
  refine sc_seq fun K1 hK1 => ?_
  refine sc_text [3] ?_
  refine sr_pu rfl (fun _ => rd_assign ev_c) ?_
  refine sr_nil (hK1 _ _ ?_)
  refine sc_seq fun K2 hK2 => ?_
  refine sc_seq fun K3 hK3 => ?_
  refine sc_text [3] ?_
  refine sr_pu rfl (fun _ => rd_assign ev_c) ?_
  refine sr_nil (hK3 _ _ ?_)
  refine sc_block ?_
  refine sc_loop2 (fun (i : Nat) u1 => (i ≤ l.length ∧ ∀ j, (h : j < l.length) → j < i → fieldB l[j] = true) ∧ G w u1) [(0, True, _)] (fun (i : Nat) => [(3, True, .int .i64 i)]) (fun (i : Nat) => l.length - i) (0) ⟨⟨Nat.zero_le _, fun j _ hj => absurd hj (Nat.not_lt_zero j)⟩, G.refl _⟩ (sub_cons rfl (sub_cons rfl (sub_nil _))) ?_
  rintro i u1 ⟨hI1, gl1⟩
  have g := g.trans gl1
  refine sc_seq fun K4 hK4 => ?_
  refine sc_seq fun K5 hK5 => ?_
  refine sc_text [3, 3, 3, 3] ?_
  refine sr_pu rfl (fun _ => rd_move (ev_t rfl)) ?_
  refine sr_pu rfl (fun _ => rd_move (ev_t rfl)) ?_
  refine sr_pu rfl (fun _ => rd_len el_sl_api_Node (ev_t rfl)) ?_
  refine sr_pu rfl (fun _ => rd_lt (ev_t rfl) (ev_t rfl)) ?_
  refine sr_sub [(0, _, _), (3, _, _), (7, _, _)] (sub_cons rfl (sub_cons rfl (sub_cons rfl (sub_nil _)))) ?_
  refine sr_nil (hK5 _ _ ?_)
  refine sc_cond (ev_t rfl) (fun h1 => ?_) (fun h1 => ?_)
  · replace h1 : i < l.length := by simp only [decide_eq_true_eq] at h1; omega
    obtain ⟨b, o, rfl, hD, xs, hR, hX⟩ := hks (by omega)
    obtain ⟨p', c', hcell, hkid⟩ := kd_at hR hX h1
    obtain ⟨p3, c3, h0x⟩ := kd_optx hkid 0
    refine sc_skip (hK4 _ _ ?_)
    refine sc_sub [(0, _, _), (3, _, _)] (sub_cons rfl (sub_cons rfl (sub_nil _))) ?_
    refine sc_seq fun K6 hK6 => ?_
    refine sc_block ?_
    refine sc_seq fun K7 hK7 => ?_
    refine sc_text [3, 3, 3, 3, 0, 3, 3, 3, 3, 3, 3, 0, 1, 3, 3, 3, 3, 3, 3, 3, 0, 3, 3, 3, 3, 3, 3, 3, 3, 0, 3, 0, 1, 3, 3] ?_
    refine sr_pu rfl (fun _ => rd_move (ev_t rfl)) ?_
    refine sr_pu rfl (fun _ => rd_move (ev_t rfl)) ?_
    refine sr_pu rfl (fun _ => rd_idx el_sl_api_Node (ev_t rfl) (ev_t rfl) (fun _ => by omega)) ?_
    refine sr_pu rfl (fun _ => rd_field fo_api_Node_0 (ev_t rfl)) ?_
    refine sr_rd rfl (rd_load one_int (ev_t rfl) (fun _ => (hcell.grow g) 0 _ rfl)) ?_
    refine sr_pu rfl (fun _ => rd_ne (ev_t rfl) ev_c) ?_
    refine sr_pu rfl (fun _ => rd_move (ev_t rfl)) ?_
    refine sr_pug rfl rfl rfl (fun _ => rd_move (ev_t rfl)) ?_
    refine sr_pug rfl rfl rfl (fun _ => rd_move (ev_t rfl)) ?_
    refine sr_pug rfl rfl rfl (fun _ => rd_idx el_sl_api_Node (ev_u rfl id) (ev_u rfl id) (fun _ => by omega)) ?_
    refine sr_pug rfl rfl rfl (fun _ => rd_field fo_api_Node_1 (ev_u rfl id)) ?_
    refine sr_rdg rfl rfl rfl (rd_load one_string (ev_u rfl id) (fun _ => (hcell.grow g) 1 _ rfl)) ?_
    refine sr_pureg rfl rfl rfl (fun _ => (rc_call go_r02_Name ev_f (args_cons (ev_u rfl id) (args_nil)) rfl)) (fun hc => rname_ok _ _) (fun w22 g22 => ?_)
    have g := g.trans (g22)
    try have gl1 := gl1.trans (g22)
    refine sr_pug rfl rfl rfl (fun _ => rd_not (ev_u rfl id)) ?_
    refine sr_pu rfl (fun _ => rd_pick_or (ev_t rfl) (ev_u rfl id)) ?_
    refine sr_pu rfl (fun _ => rd_move (ev_t rfl)) ?_
    refine sr_pug rfl rfl rfl (fun _ => rd_move (ev_t rfl)) ?_
    refine sr_pug rfl rfl rfl (fun _ => rd_move (ev_t rfl)) ?_
    refine sr_pug rfl rfl rfl (fun _ => rd_idx el_sl_api_Node (ev_u rfl id) (ev_u rfl id) (fun _ => by omega)) ?_
    refine sr_pug rfl rfl rfl (fun _ => rd_field fo_api_Node_4 (ev_u rfl id)) ?_
    refine sr_rdg rfl rfl rfl (rd_load one_sl_api_Node (ev_u rfl id) (fun _ => (hcell.grow g) 4 _ rfl)) ?_
    refine sr_pug rfl rfl rfl (fun _ => rd_len el_sl_api_Node (ev_u rfl id)) ?_
    refine sr_pug rfl rfl rfl (fun _ => rd_ne (ev_u rfl id) ev_c) ?_
    refine sr_pu rfl (fun _ => rd_pick_or (ev_t rfl) (ev_u rfl id)) ?_
    refine sr_pu rfl (fun _ => rd_move (ev_t rfl)) ?_
    refine sr_pug rfl rfl rfl (fun _ => rd_move (ev_t rfl)) ?_
    refine sr_pug rfl rfl rfl (fun _ => rd_move (ev_t rfl)) ?_
    refine sr_pug rfl rfl rfl (fun _ => rd_idx el_sl_api_Node (ev_u rfl id) (ev_u rfl id) (fun _ => by omega)) ?_
    refine sr_pug rfl rfl rfl (fun _ => rd_field fo_api_Node_4 (ev_u rfl id)) ?_
    refine sr_rdg rfl rfl rfl (rd_load one_sl_api_Node (ev_u rfl id) (fun _ => (hcell.grow g) 4 _ rfl)) ?_
    refine sr_pug rfl rfl rfl (fun _ => rd_idxq el_sl_api_Node (ev_u rfl id) ev_c (fun hc => by (have hz := hc.2; first | (unfold lenK at hz; simp at hz; omega) | (simp at hz; omega))) (fun hc => (h0x (by (have hz := hc.2; first | (unfold lenK at hz; simp at hz; omega) | (simp at hz; omega)))).1)) ?_
    refine sr_rdg rfl rfl rfl (rd_loads agg_api_Node (ev_u rfl id) rfl (fun hc => (h0x (by (have hz := hc.2; first | (unfold lenK at hz; simp at hz; omega) | (simp at hz; omega)))).2.1.grow g)) ?_
    refine sr_pureg rfl rfl rfl (fun _ => (rc_call go_r03_IsType ev_f (args_cons (ev_u rfl id) (args_nil)) rfl)) (fun hc => istype_ok _ _ _ _) (fun w42 g42 => ?_)
    have g := g.trans (g42)
    try have gl1 := gl1.trans (g42)
    refine sr_pug rfl rfl rfl (fun _ => rd_not (ev_u rfl id)) ?_
    refine sr_pu rfl (fun _ => rd_pick_or (ev_t rfl) (ev_u rfl id)) ?_
    refine sr_sub [(0, _, _), (3, _, _), (44, _, _)] (sub_cons rfl (sub_cons rfl (sub_cons rfl (sub_nil _)))) ?_
    refine sr_nil (hK7 _ _ ?_)
    refine sc_cond (ev_t rfl) (fun h2 => ?_) (fun h2 => ?_)
    · replace h2 : fieldB l[i] = false := by simpa using (fieldB_not _).trans h2
      refine sc_seq fun K8 hK8 => ?_
      refine sc_text [3] ?_
      refine sr_pu rfl (fun _ => rd_assign ev_c) ?_
      refine sr_sub [(0, _, _), (2, _, _), (3, _, _)] (sub_cons rfl (sub_cons rfl (sub_cons rfl (sub_nil _)))) ?_
      refine sr_nil (hK8 _ _ ?_)
      refine sc_ret (t_ret1 rfl rfl ?_)
      refine ⟨congrArg Value.bool ?_, g⟩
      rw [eq_comm, List.all_eq_false]
      exact ⟨_, List.getElem_mem h1, by rw [h2]; simp⟩
    · replace h2 : fieldB l[i] = true := by simpa using (fieldB_not _).trans h2
      refine sc_skip (hK6 _ _ ?_)
      refine sc_sub [(0, _, _), (3, _, _)] (sub_cons rfl (sub_cons rfl (sub_nil _))) ?_
      refine sc_text [3, 3, 3] ?_
      refine sr_pu rfl (fun _ => rd_move (ev_t rfl)) ?_
      refine sr_pu rfl (fun _ => rd_add (ev_t rfl) ev_c (fun _ => by omega)) ?_
      refine sr_pu rfl (fun _ => rd_assign (ev_t rfl)) ?_
      refine sr_sub [(3, _, _), (0, _, _)] (sub_cons rfl (sub_cons rfl (sub_nil _))) ?_
      refine sr_nil (fun a ha => ?_)
      refine ⟨i + 1, ha, ⟨⟨h1, fun j h hj => ?_⟩, gl1⟩, by omega⟩
      by_cases e : j = i
      · subst e; exact h2
      · exact hI1.2 j h (by omega)
  · (try simp only [bsimp] at h1)
    refine sc_exit rfl (hK2 _ _ ?_)
    refine sc_sub [] (sub_nil _) ?_
    refine sc_seq fun K9 hK9 => ?_
    refine sc_text [3] ?_
    refine sr_pu rfl (fun _ => rd_assign ev_c) ?_
    refine sr_nil (hK9 _ _ ?_)
    refine sc_ret (t_ret1 rfl rfl ?_)
    refine ⟨congrArg Value.bool ?_, g⟩
    rw [eq_comm, List.all_eq_true]
    intro x hx
    obtain ⟨j, hj, rfl⟩ := List.getElem_of_mem hx
    exact hI1.2 j hj (by simp only [decide_eq_false_iff_not] at h1; omega)
theorem isdecl_ok (t : Nd) (p : Option Addr) (c : Nat) (D : Nat → Prop) (w : World) (hk : Kd w D t.kids (.slice p t.kids.length c)) (hcn : count t ≤ 1000000) : Ret PP fn_r03_isDecl #[ndV t (.slice p t.kids.length c)] w fun r w' => r = .bool (declB t) ∧ G w w' := by
  rw [← refDecl_eq]
  have g := G.refl w
  have hln := kids_le t
  have ih : Below t := fun k hk => rok k (by omega)
  obtain ⟨p1, c1, h1x⟩ := kd_ih hk ih 1
  refine ret_of_sc (m := 77) func_r03_isDecl rfl rfl [(0, True, _)] (sub_cons rfl (sub_nil _)) ?_
  refine sc_seq fun K1 hK1 => ?_
  refine sc_text [1, 3] ?_
  refine sr_box rfl (ev_t rfl) rfl ?_
  intro b1 w1 N1
  have l1 := N1.ge g
  have g := g.trans (N1.g)
  have B1 := N1.blk
  refine sr_pu rfl (fun _ => rd_assign ev_c) ?_
  refine sr_sub [(1, _, _), (2, _, _)] (sub_cons rfl (sub_cons rfl (sub_nil _))) ?_
  refine sr_nil (hK1 _ _ ?_)
  refine sc_seq fun K2 hK2 => ?_
  refine sc_seq fun K3 hK3 => ?_
  refine sc_text [3, 0] ?_
  refine sr_pu rfl (fun _ => rd_field fo_api_Node_0 (ev_t rfl)) ?_
  refine sr_rd rfl (rd_load one_int (ev_t rfl) (fun _ => B1.at_ rfl)) ?_
  refine sr_sub [(1, _, _), (2, _, _), (5, _, _)] (sub_cons rfl (sub_cons rfl (sub_cons rfl (sub_nil _)))) ?_
  refine sr_nil (hK3 _ _ ?_)
  refine sc_block ?_
  refine sc_seq fun K4 hK4 => ?_
  refine sc_text [3, 3] ?_
  refine sr_pu rfl (fun _ => rd_eq (ev_t rfl) ev_c) ?_
  refine sr_pu rfl (fun _ => rd_assign (ev_t rfl)) ?_
  refine sr_sub [(1, _, _), (2, _, _), (5, _, _), (6, _, _)] (sub_cons rfl (sub_cons rfl (sub_cons rfl (sub_cons rfl (sub_nil _))))) ?_
  refine sr_nil (hK4 _ _ ?_)
  refine sc_cond (ev_t rfl) (fun h1 => ?_) (fun h1 => ?_)
  · (try simp only [bsimp] at h1)
    refine sc_seq fun K5 hK5 => ?_
    refine sc_text [3, 0, 1, 3, 3, 0, 1, 3, 3] ?_
    refine sr_pu rfl (fun _ => rd_field fo_api_Node_1 (ev_t rfl)) ?_
    refine sr_rd rfl (rd_load one_string (ev_t rfl) (fun _ => B1.at_ rfl)) ?_
    refine sr_pure rfl (rc_call go_r02_Name ev_f (args_cons (ev_t rfl) (args_nil)) rfl) (rname_ok _ _) (fun w10 g10 => ?_)
    have g := g.trans (g10)
    replace B1 := B1.grow (g10)
    refine sr_pu rfl (fun _ => rd_move (ev_t rfl)) ?_
    refine sr_pug rfl rfl rfl (fun _ => rd_field fo_api_Node_4 (ev_t rfl)) ?_
    refine sr_rdg rfl rfl rfl (rd_load one_sl_api_Node (ev_u rfl id) (fun _ => B1.at_ rfl)) ?_
    refine sr_pureg rfl rfl rfl (fun _ => (rc_call go_r03_fields ev_f (args_cons (ev_u rfl id) (args_nil)) rfl)) (fun hc => fields_ok _ _ _ D _ (hk.grow g) (by omega)) (fun w14 g14 => ?_)
    have g := g.trans (g14)
    replace B1 := B1.grow (g14)
    refine sr_pu rfl (fun _ => rd_pick_and (ev_t rfl) (ev_u rfl id)) ?_
    refine sr_pu rfl (fun _ => rd_assign (ev_t rfl)) ?_
    refine sr_sub [(2, _, _)] (sub_cons rfl (sub_nil _)) ?_
    refine sr_nil (hK5 _ _ ?_)
    refine sc_ret (t_ret1 rfl rfl ?_)
    refine ⟨congrArg Value.bool ?_, g⟩
    unfold refDecl; simp only [h1, cond_true, cond_false] <;> rfl
  · (try simp only [bsimp] at h1)
    refine sc_seq fun K6 hK6 => ?_
    refine sc_text [3, 3] ?_
    refine sr_pu rfl (fun _ => rd_eq (ev_t rfl) ev_c) ?_
    refine sr_pu rfl (fun _ => rd_assign (ev_t rfl)) ?_
    refine sr_sub [(1, _, _), (2, _, _), (5, _, _), (16, _, _)] (sub_cons rfl (sub_cons rfl (sub_cons rfl (sub_cons rfl (sub_nil _))))) ?_
    refine sr_nil (hK6 _ _ ?_)
    refine sc_cond (ev_t rfl) (fun h2 => ?_) (fun h2 => ?_)
    · have hk2 : t.kind = 6 := by simpa using h2
      refine sc_seq fun K7 hK7 => ?_
      refine sc_text [0, 1, 3, 3, 0, 3, 0, 1, 3, 3] ?_
      refine sr_rd rfl (rd_loads agg_api_Node (ev_t rfl) rfl (fun _ => B1.row)) ?_
      refine sr_pure rfl (rc_call go_r03_isVar ev_f (args_cons (ev_t rfl) (args_nil)) rfl) (isvar_ok t _ _ D _ (hk.grow g) ih) (fun w19 g19 => ?_)
      have g := g.trans (g19)
      replace B1 := B1.grow (g19)
      refine sr_pu rfl (fun _ => rd_move (ev_t rfl)) ?_
      refine sr_pug rfl rfl rfl (fun _ => rd_field fo_api_Node_4 (ev_t rfl)) ?_
      refine sr_rdg rfl rfl rfl (rd_load one_sl_api_Node (ev_u rfl id) (fun _ => B1.at_ rfl)) ?_
      refine sr_pug rfl rfl rfl (fun _ => rd_idxq el_sl_api_Node (ev_u rfl id) ev_c (fun hc => by have := perm_len2 (.inr hk2) (Bool.and_eq_true_iff.1 hc.2).2; omega) (fun hc => (h1x (by have := perm_len2 (.inr hk2) (Bool.and_eq_true_iff.1 hc.2).2; omega)).1)) ?_
      refine sr_rdg rfl rfl rfl (rd_loads agg_api_Node (ev_u rfl id) rfl (fun hc => (h1x (by have := perm_len2 (.inr hk2) (Bool.and_eq_true_iff.1 hc.2).2; omega)).2.1.grow g)) ?_
      refine sr_pureg rfl rfl rfl (fun _ => (rc_call go_r03_isNone ev_f (args_cons (ev_u rfl id) (args_nil)) rfl)) (fun hc => none_ok _ _ _ _) (fun w25 g25 => ?_)
      have g := g.trans (g25)
      replace B1 := B1.grow (g25)
      refine sr_pu rfl (fun _ => rd_pick_and (ev_t rfl) (ev_u rfl id)) ?_
      refine sr_pu rfl (fun _ => rd_assign (ev_t rfl)) ?_
      refine sr_sub [(2, _, _)] (sub_cons rfl (sub_nil _)) ?_
      refine sr_nil (hK7 _ _ ?_)
      refine sc_ret (t_ret1 rfl rfl ?_)
      refine ⟨congrArg Value.bool ?_, g⟩
      unfold refDecl; simp only [h1, h2, cond_true, cond_false] <;> rfl
    · (try simp only [bsimp] at h2)
      refine sc_seq fun K8 hK8 => ?_
      refine sc_text [3, 3] ?_
      refine sr_pu rfl (fun _ => rd_eq (ev_t rfl) ev_c) ?_
      refine sr_pu rfl (fun _ => rd_assign (ev_t rfl)) ?_
      refine sr_sub [(1, _, _), (2, _, _), (27, _, _)] (sub_cons rfl (sub_cons rfl (sub_cons rfl (sub_nil _)))) ?_
      refine sr_nil (hK8 _ _ ?_)
      refine sc_cond (ev_t rfl) (fun h3 => ?_) (fun h3 => ?_)
      · (try simp only [bsimp] at h3)
        refine sc_seq fun K9 hK9 => ?_
        refine sc_seq fun K10 hK10 => ?_
        refine sc_text [3, 0, 1, 3, 3, 3, 0, 3, 3, 3] ?_
        refine sr_pu rfl (fun _ => rd_field fo_api_Node_1 (ev_t rfl)) ?_
        refine sr_rd rfl (rd_load one_string (ev_t rfl) (fun _ => B1.at_ rfl)) ?_
        refine sr_pure rfl (rc_call go_r02_Name ev_f (args_cons (ev_t rfl) (args_nil)) rfl) (rname_ok _ _) (fun w31 g31 => ?_)
        have g := g.trans (g31)
        replace B1 := B1.grow (g31)
        refine sr_pu rfl (fun _ => rd_not (ev_t rfl)) ?_
        refine sr_pu rfl (fun _ => rd_move (ev_t rfl)) ?_
        refine sr_pug rfl rfl rfl (fun _ => rd_field fo_api_Node_4 (ev_t rfl)) ?_
        refine sr_rdg rfl rfl rfl (rd_load one_sl_api_Node (ev_u rfl id) (fun _ => B1.at_ rfl)) ?_
        refine sr_pug rfl rfl rfl (fun _ => rd_len el_sl_api_Node (ev_u rfl id)) ?_
        refine sr_pug rfl rfl rfl (fun _ => rd_ne (ev_u rfl id) ev_c) ?_
        refine sr_pu rfl (fun _ => rd_pick_or (ev_t rfl) (ev_u rfl id)) ?_
        refine sr_sub [(1, _, _), (2, _, _), (38, _, _)] (sub_cons rfl (sub_cons rfl (sub_cons rfl (sub_nil _)))) ?_
        refine sr_nil (hK10 _ _ ?_)
        refine sc_cond (ev_t rfl) (fun h4 => ?_) (fun h4 => ?_)
        · replace h4 : (!nameB t.text || !lenK t 3) = true := h4
          refine sc_seq fun K11 hK11 => ?_
          refine sc_text [3] ?_
          refine sr_pu rfl (fun _ => rd_assign ev_c) ?_
          refine sr_sub [(1, _, _), (2, _, _)] (sub_cons rfl (sub_cons rfl (sub_nil _))) ?_
          refine sr_nil (hK11 _ _ ?_)
          refine sc_ret (t_ret1 rfl rfl ?_)
          refine ⟨congrArg Value.bool ?_, g⟩
          unfold refDecl; simp only [h1, h2, h3, h4, cond_true, cond_false] <;> rfl
        · replace h4 : (!nameB t.text || !lenK t 3) = false := h4
          have hl3 : t.kids.length = 3 := by simp only [lenK, Bool.or_eq_false_iff, Bool.not_eq_false', decide_eq_true_eq] at h4; omega
          obtain ⟨hpe, p0, c0, hcell0, hkid0⟩ := kd_opt hk (i := 0) (by omega)
          obtain ⟨_, p2, c2, hcell2, hkid2⟩ := kd_opt hk (i := 2) (by omega)
          obtain ⟨_, hcell1, hkid1, hr1⟩ := h1x (by omega)
          have hr2 := ih.kid (i := 2) (by omega)
          have hkl0 := kidAt_len hcn 0
          refine sc_skip (hK9 _ _ ?_)
          refine sc_sub [(1, _, _), (2, _, _)] (sub_cons rfl (sub_cons rfl (sub_nil _))) ?_
          refine sc_seq fun K12 hK12 => ?_
          refine sc_text [3, 0, 3, 0, 1, 2] ?_
          refine sr_pu rfl (fun _ => rd_field fo_api_Node_4 (ev_t rfl)) ?_
          refine sr_rd rfl (rd_load one_sl_api_Node (ev_t rfl) (fun _ => B1.at_ rfl)) ?_
          refine sr_pu rfl (fun _ => rd_idxq el_sl_api_Node (ev_t rfl) ev_c (fun _ => by omega) (fun _ => hpe)) ?_
          refine sr_rd rfl (rd_loads agg_api_Node (ev_t rfl) rfl (fun _ => hcell0.grow g)) ?_
          refine sr_alloc rfl ze_api_Node rfl ?_
          intro b3 w3 N3
          have x3_1 := N3.ne B1
          have l3 := N3.ge g
          have g := g.trans (N3.g)
          replace B1 := B1.grow (N3.g)
          have B3 := N3.blk
          refine sr_store_all rfl sz_api_Node (ev_t rfl) (ev_t rfl) rfl rfl B3 rfl rfl ?_
          intro wS1 hgS1 hzS1
          clear B3
          intro B3
          replace B1 := B1.keep hgS1 (by intro h; injection h with h; omega)
          have g := g_only g hgS1 (by intro k hk; injection hk with hk; omega)
          refine sr_sub [(1, _, _), (2, _, _), (3, _, _)] (sub_cons rfl (sub_cons rfl (sub_cons rfl (sub_nil _)))) ?_
          refine sr_nil (hK12 _ _ ?_)
          refine sc_seq fun K13 hK13 => ?_
          refine sc_text [3, 0, 3, 3, 3, 0, 3, 3, 3, 3, 0, 1, 3, 3, 3, 0, 3, 0, 1, 3, 3, 0, 3, 0, 1, 3, 3, 3, 3, 0, 3, 0, 1, 3, 3] ?_
          refine sr_pu rfl (fun _ => rd_field fo_api_Node_0 (ev_t rfl)) ?_
          refine sr_rd rfl (rd_load one_int (ev_t rfl) (fun _ => B3.at_ rfl)) ?_
          refine sr_pu rfl (fun _ => rd_eq (ev_t rfl) ev_c) ?_
          refine sr_pu rfl (fun _ => rd_move (ev_t rfl)) ?_
          refine sr_pug rfl rfl rfl (fun _ => rd_field fo_api_Node_1 (ev_t rfl)) ?_
          refine sr_rdg rfl rfl rfl (rd_load one_string (ev_u rfl id) (fun _ => B3.at_ rfl)) ?_
          refine sr_pug rfl rfl rfl (fun _ => rd_seq (ev_u rfl id) ev_c) ?_
          refine sr_pu rfl (fun _ => rd_pick_and (ev_t rfl) (ev_u rfl id)) ?_
          refine sr_pu rfl (fun _ => rd_move (ev_t rfl)) ?_
          refine sr_pug rfl rfl rfl (fun _ => rd_field fo_api_Node_4 (ev_t rfl)) ?_
          refine sr_rdg rfl rfl rfl (rd_load one_sl_api_Node (ev_u rfl id) (fun _ => B3.at_ rfl)) ?_
          refine sr_pureg rfl rfl rfl (fun _ => (rc_call go_r03_fields ev_f (args_cons (ev_u rfl id) (args_nil)) rfl)) (fun hc => fields_ok _ _ _ D _ (hkid0.grow g) hkl0) (fun w54 g54 => ?_)
          have g := g.trans (g54)
          replace B1 := B1.grow (g54)
          replace B3 := B3.grow (g54)
          refine sr_pu rfl (fun _ => rd_pick_and (ev_t rfl) (ev_u rfl id)) ?_
          refine sr_pu rfl (fun _ => rd_move (ev_t rfl)) ?_
          refine sr_pug rfl rfl rfl (fun _ => rd_field fo_api_Node_4 (ev_t rfl)) ?_
          refine sr_rdg rfl rfl rfl (rd_load one_sl_api_Node (ev_u rfl id) (fun _ => B1.at_ rfl)) ?_
          refine sr_pug rfl rfl rfl (fun _ => rd_idxq el_sl_api_Node (ev_u rfl id) ev_c (fun _ => by omega) (fun _ => hpe)) ?_
          refine sr_rdg rfl rfl rfl (rd_loads agg_api_Node (ev_u rfl id) rfl (fun _ => hcell1.grow g)) ?_
          refine sr_pureg rfl rfl rfl (fun _ => (rc_call go_r03_isNone ev_f (args_cons (ev_u rfl id) (args_nil)) rfl)) (fun hc => none_ok _ _ _ _) (fun w61 g61 => ?_)
          have g := g.trans (g61)
          replace B1 := B1.grow (g61)
          replace B3 := B3.grow (g61)
          refine sr_pug rfl rfl rfl (fun _ => rd_move (ev_u rfl id)) ?_
          refine sr_pug rfl rfl rfl (fun _ => rd_field fo_api_Node_4 (ev_t rfl)) ?_
          refine sr_rdg rfl rfl rfl (rd_load one_sl_api_Node (ev_u rfl id) (fun _ => B1.at_ rfl)) ?_
          refine sr_pug rfl rfl rfl (fun _ => rd_idxq el_sl_api_Node (ev_u rfl id) ev_c (fun _ => by omega) (fun _ => hpe)) ?_
          refine sr_rdg rfl rfl rfl (rd_loads agg_api_Node (ev_u rfl id) rfl (fun _ => hcell1.grow g)) ?_
          refine sr_pureg rfl rfl rfl (fun _ => (rc_call go_r03_IsType ev_f (args_cons (ev_u rfl id) (args_nil)) rfl)) (fun hc => istype_ok _ _ _ _) (fun w67 g67 => ?_)
          have g := g.trans (g67)
          replace B1 := B1.grow (g67)
          replace B3 := B3.grow (g67)
          refine sr_pug rfl rfl rfl (fun _ => rd_pick_or (ev_u rfl id) (ev_u rfl id)) ?_
          refine sr_pu rfl (fun _ => rd_pick_and (ev_t rfl) (ev_u rfl id)) ?_
          refine sr_pu rfl (fun _ => rd_move (ev_t rfl)) ?_
          refine sr_pug rfl rfl rfl (fun _ => rd_field fo_api_Node_4 (ev_t rfl)) ?_
          refine sr_rdg rfl rfl rfl (rd_load one_sl_api_Node (ev_u rfl id) (fun _ => B1.at_ rfl)) ?_
          refine sr_pug rfl rfl rfl (fun _ => rd_idxq el_sl_api_Node (ev_u rfl id) ev_c (fun _ => by omega) (fun _ => hpe)) ?_
          refine sr_rdg rfl rfl rfl (rd_loads agg_api_Node (ev_u rfl id) rfl (fun _ => hcell2.grow g)) ?_
          refine sr_pureg rfl rfl rfl (fun _ => (rc_call go_r03_isBlock ev_f (args_cons (ev_u rfl id) (args_nil)) rfl)) (fun hc => hr2.bl _ _ D _ (hkid2.grow g)) (fun w75 g75 => ?_)
          have g := g.trans (g75)
          replace B1 := B1.grow (g75)
          replace B3 := B3.grow (g75)
          refine sr_pu rfl (fun _ => rd_pick_and (ev_t rfl) (ev_u rfl id)) ?_
          refine sr_pu rfl (fun _ => rd_assign (ev_t rfl)) ?_
          refine sr_sub [(2, _, _)] (sub_cons rfl (sub_nil _)) ?_
          refine sr_nil (hK13 _ _ ?_)
          refine sc_ret (t_ret1 rfl rfl ?_)
          refine ⟨congrArg Value.bool ?_, g⟩
          unfold refDecl; simp only [h1, h2, h3, h4, cond_true, cond_false] <;> rfl
      · (try simp only [bsimp] at h3)
        refine sc_skip (hK2 _ _ ?_)
        refine sc_sub [(2, _, _)] (sub_cons rfl (sub_nil _)) ?_
        refine sc_seq fun K14 hK14 => ?_
        refine sc_text [3] ?_
        refine sr_pu rfl (fun _ => rd_assign ev_c) ?_
        refine sr_nil (hK14 _ _ ?_)
        refine sc_ret (t_ret1 rfl rfl ?_)
        refine ⟨congrArg Value.bool ?_, g⟩
        unfold refDecl; simp only [h1, h2, h3, cond_true, cond_false] <;> rfl
theorem rdepth_ok : ∀ (t : Nd) (v : Value) (D : Nat → Prop) (w : World), Kd w D t.kids v → count t ≤ 1000000 → Ret PP fn_r03_Depth #[ndV t v] w fun r w' => r = .int .i64 (depthN t : Nat) ∧ G w w' := by
  refine Nd.ind fun t ih v D w hk hcn => ?_
  obtain ⟨p, c, rfl, hcap, hks⟩ := hk
  have g := G.refl w
  have hlen := kids_le t
  have hdc := depthN_count t
  have hde := depthN_eq t
  have hpre : ∀ i, maxL ((t.kids.take i).map depthN) ≤ maxL (t.kids.map depthN) := fun i => by
    rw [maxL_le]
    intro x hx
    rw [List.map_take] at hx
    exact (maxL_le _ _).1 (Nat.le_refl _) x (List.mem_of_mem_take hx)
  refine ret_of_sc (m := 22) func_r03_Depth rfl rfl [(0, True, _)] (sub_cons rfl (sub_nil _)) ?_
  refine sc_seq fun K1 hK1 => ?_
  refine sc_text [1, 3] ?_
  refine sr_box rfl (ev_t rfl) rfl ?_
  intro b1 w1 N1
  have l1 := N1.ge g
  have g := g.trans (N1.g)
  have B1 := N1.blk
  refine sr_pu rfl (fun _ => rd_assign ev_c) ?_
  refine sr_sub [(1, _, _), (2, _, _)] (sub_cons rfl (sub_cons rfl (sub_nil _))) ?_
  refine sr_nil (hK1 _ _ ?_)
  refine sc_seq fun K2 hK2 => ?_
  refine sc_text [3] ?_
  refine sr_pu rfl (fun _ => rd_assign ev_c) ?_
  refine sr_nil (hK2 _ _ ?_)
  refine sc_seq fun K3 hK3 => ?_
  refine sc_seq fun K4 hK4 => ?_
  refine sc_text [3] ?_
  refine sr_pu rfl (fun _ => rd_assign ev_c) ?_
  refine sr_nil (hK4 _ _ ?_)
  refine sc_block ?_
  refine sc_loop2 (fun (i : Nat) u1 => (i ≤ t.kids.length) ∧ G w1 u1) [(1, True, _), (2, True, _)] (fun (i : Nat) => [(3, True, .int .i64 ((maxL ((t.kids.take i).map depthN) : Nat) : Int)), (4, True, .int .i64 i)]) (fun (i : Nat) => t.kids.length - i) (0) ⟨by simp, G.refl _⟩ (sub_cons rfl (sub_cons rfl (sub_cons rfl (sub_cons rfl (sub_nil _))))) ?_
  rintro i u1 ⟨hI1, gl1⟩
  have g := g.trans gl1
  replace B1 := B1.grow (gl1)
  refine sc_seq fun K5 hK5 => ?_
  refine sc_seq fun K6 hK6 => ?_
  refine sc_text [3, 3, 0, 3, 3] ?_
  refine sr_pu rfl (fun _ => rd_move (ev_t rfl)) ?_
  refine sr_pu rfl (fun _ => rd_field fo_api_Node_4 (ev_t rfl)) ?_
  refine sr_rd rfl (rd_load one_sl_api_Node (ev_t rfl) (fun _ => B1.at_ rfl)) ?_
  refine sr_pu rfl (fun _ => rd_len el_sl_api_Node (ev_t rfl)) ?_
  refine sr_pu rfl (fun _ => rd_lt (ev_t rfl) (ev_t rfl)) ?_
  refine sr_sub [(1, _, _), (2, _, _), (3, _, _), (4, _, _), (9, _, _)] (sub_cons rfl (sub_cons rfl (sub_cons rfl (sub_cons rfl (sub_cons rfl (sub_nil _)))))) ?_
  refine sr_nil (hK6 _ _ ?_)
  refine sc_cond (ev_t rfl) (fun h1 => ?_) (fun h1 => ?_)
  · replace h1 : i < t.kids.length := by simp only [decide_eq_true_eq] at h1; omega
    obtain ⟨b, o, rfl, hD, xs, hR, hX⟩ := hks (by omega)
    obtain ⟨p', c', hcell, hkid⟩ := kd_at hR hX h1
    have hck := count_kid h1
    refine sc_skip (hK5 _ _ ?_)
    refine sc_sub [(1, _, _), (2, _, _), (3, _, _), (4, _, _)] (sub_cons rfl (sub_cons rfl (sub_cons rfl (sub_cons rfl (sub_nil _))))) ?_
    refine sc_seq fun K7 hK7 => ?_
    refine sc_block ?_
    refine sc_text [3, 3, 0, 3, 3, 0, 1, 3, 3] ?_
    refine sr_pu rfl (fun _ => rd_move (ev_t rfl)) ?_
    refine sr_pu rfl (fun _ => rd_field fo_api_Node_4 (ev_t rfl)) ?_
    refine sr_rd rfl (rd_load one_sl_api_Node (ev_t rfl) (fun _ => B1.at_ rfl)) ?_
    refine sr_pu rfl (fun _ => rd_move (ev_t rfl)) ?_
    refine sr_pu rfl (fun _ => rd_idx el_sl_api_Node (ev_t rfl) (ev_t rfl) (fun _ => by omega)) ?_
    refine sr_rd rfl (rd_loads agg_api_Node (ev_t rfl) rfl (fun _ => hcell.grow g)) ?_
    refine sr_pure rfl (rc_call go_r03_Depth ev_f (args_cons (ev_t rfl) (args_nil)) rfl) (ih _ (List.getElem_mem h1) _ _ _ (hkid.grow g) (by omega)) (fun w18 g18 => ?_)
    have g := g.trans (g18)
    try have gl1 := gl1.trans (g18)
    replace B1 := B1.grow (g18)
    refine sr_pu rfl (fun _ => rd_max (ev_t rfl) (ev_t rfl)) ?_
    refine sr_pu rfl (fun _ => rd_assign (ev_t rfl)) ?_
    refine sr_sub [(1, _, _), (2, _, _), (3, _, _), (4, _, _)] (sub_cons rfl (sub_cons rfl (sub_cons rfl (sub_cons rfl (sub_nil _))))) ?_
    refine sr_nil (hK7 _ _ ?_)
    refine sc_text [3, 3, 3] ?_
    refine sr_pu rfl (fun _ => rd_move (ev_t rfl)) ?_
    refine sr_pu rfl (fun _ => rd_add (ev_t rfl) ev_c (fun _ => by omega)) ?_
    refine sr_pu rfl (fun _ => rd_assign (ev_t rfl)) ?_
    refine sr_sub [(3, _, _), (4, _, _), (1, _, _), (2, _, _)] (sub_cons rfl (sub_cons rfl (sub_cons rfl (sub_cons rfl (sub_nil _))))) ?_
    refine sr_nil (fun a ha => ?_)
    rw [max_nat, show max (maxL ((t.kids.take i).map depthN)) (depthN t.kids[i]) = maxL ((t.kids.take (i + 1)).map depthN) by rw [take_succ_map depthN t.kids i h1, maxL, maxL, List.foldl_append]; rfl] at ha
    exact ⟨i + 1, ha, ⟨h1, gl1⟩, by omega⟩
  · replace h1 : i = t.kids.length := by simp only [decide_eq_false_iff_not] at h1; omega
    have hp := hpre i
    refine sc_exit rfl (hK3 _ _ ?_)
    refine sc_sub [(2, _, _), (3, _, _)] (sub_cons rfl (sub_cons rfl (sub_nil _))) ?_
    refine sc_seq fun K8 hK8 => ?_
    refine sc_text [3, 3, 3] ?_
    refine sr_pu rfl (fun _ => rd_move (ev_t rfl)) ?_
    refine sr_pu rfl (fun _ => rd_add (ev_t rfl) ev_c (fun _ => by omega)) ?_
    refine sr_pu rfl (fun _ => rd_assign (ev_t rfl)) ?_
    refine sr_nil (hK8 _ _ ?_)
    refine sc_ret (t_ret1 rfl rfl ?_)
    refine ⟨?_, g⟩
    rw [h1, List.take_length, hde]; rfl
theorem rvalid_eq (t : Nd) : (bif (!decide (t.kind = 1) || !plainB t) || decide ((50 : Int) < (depthN t : Nat)) then false else t.kids.all declB) = validB t := by
  rw [validB, permB]
  by_cases h : t.kind = 1
  · rw [permF_eq, locB, textB', formB, h]
    refine Eq.trans (b := bif !plainB t || decide ((50 : Int) < (depthN t : Nat)) then false else t.kids.all declB) rfl (Eq.trans (b := ((plainB t && (!(t.kids.any fileVarB) && everyB t (memK [2, 6, 4]))) && t.kids.all permF) && decide (depthN t ≤ 50)) ?_ rfl)
    have e1 : decide ((50 : Int) < (depthN t : Nat)) = !decide (depthN t ≤ 50) := by
      rw [← decide_not, decide_eq_decide]; omega
    have e2 : t.kids.all declB = ((!(t.kids.any fileVarB) && everyB t (memK [2, 6, 4])) && t.kids.all permF) := by
      rw [Bool.and_assoc, every_all, Bool.eq_iff_iff]
      simp only [Bool.and_eq_true, List.all_eq_true, declB, Bool.not_eq_true', List.any_eq_false]
      constructor
      · intro h; exact ⟨fun k hk => by rw [(h k hk).2]; simp, fun k hk => (h k hk).1⟩
      · rintro ⟨h1, h2⟩ k hk; exact ⟨h2 k hk, by simpa using h1 k hk⟩
    rw [e1, not_if2, e2]; ac_rfl
  · rw [decide_eq_false h]; rfl
theorem rvalid03_ok (t : Nd) (v : Value) (D : Nat → Prop) (w : World) (hk : Kd w D t.kids v) (hcn : count t ≤ 1000000) : Ret PP fn_r03_Valid #[ndV t v] w fun r w' => r = .bool (validB t) ∧ G w w' := by
  rw [← rvalid_eq]
  obtain ⟨p, c, rfl, hcap, hks⟩ := hk
  have hk0 : Kd w D t.kids (.slice p t.kids.length c) := ⟨p, c, rfl, hcap, hks⟩
  have g := G.refl w
  have hln := kids_le t
  refine ret_of_sc (m := 31) func_r03_Valid rfl rfl [(0, True, _)] (sub_cons rfl (sub_nil _)) ?_
  refine sc_seq fun K1 hK1 => ?_
  refine sc_text [1, 3] ?_
  refine sr_box rfl (ev_t rfl) rfl ?_
  intro b1 w1 N1
  have l1 := N1.ge g
  have g := g.trans (N1.g)
  have B1 := N1.blk
  refine sr_pu rfl (fun _ => rd_assign ev_c) ?_
  refine sr_sub [(1, _, _), (2, _, _)] (sub_cons rfl (sub_cons rfl (sub_nil _))) ?_
  refine sr_nil (hK1 _ _ ?_)
  refine sc_seq fun K2 hK2 => ?_
  refine sc_seq fun K3 hK3 => ?_
  refine sc_text [3, 0, 3, 3, 3, 0, 3, 3, 3, 0, 1, 3, 3] ?_
  refine sr_pu rfl (fun _ => rd_field fo_api_Node_0 (ev_t rfl)) ?_
  refine sr_rd rfl (rd_load one_int (ev_t rfl) (fun _ => B1.at_ rfl)) ?_
  refine sr_pu rfl (fun _ => rd_ne (ev_t rfl) ev_c) ?_
  refine sr_pu rfl (fun _ => rd_move (ev_t rfl)) ?_
  refine sr_pug rfl rfl rfl (fun _ => rd_field fo_api_Node_1 (ev_t rfl)) ?_
  refine sr_rdg rfl rfl rfl (rd_load one_string (ev_u rfl id) (fun _ => B1.at_ rfl)) ?_
  refine sr_pug rfl rfl rfl (fun _ => rd_sne (ev_u rfl id) ev_c) ?_
  refine sr_pu rfl (fun _ => rd_pick_or (ev_t rfl) (ev_u rfl id)) ?_
  refine sr_pu rfl (fun _ => rd_move (ev_t rfl)) ?_
  refine sr_rdg rfl rfl rfl (rd_loads agg_api_Node (ev_t rfl) rfl (fun _ => B1.row)) ?_
  refine sr_pureg rfl rfl rfl (fun _ => (rc_call go_r03_Depth ev_f (args_cons (ev_u rfl id) (args_nil)) rfl)) (fun hc => rdepth_ok t _ D _ (hk0.grow g) hcn) (fun w14 g14 => ?_)
  have g := g.trans (g14)
  replace B1 := B1.grow (g14)
  refine sr_pug rfl rfl rfl (fun _ => rd_gt (ev_u rfl id) ev_c) ?_
  refine sr_pu rfl (fun _ => rd_pick_or (ev_t rfl) (ev_u rfl id)) ?_
  refine sr_sub [(1, _, _), (2, _, _), (16, _, _)] (sub_cons rfl (sub_cons rfl (sub_cons rfl (sub_nil _)))) ?_
  refine sr_nil (hK3 _ _ ?_)
  refine sc_cond (ev_t rfl) (fun h1 => ?_) (fun h1 => ?_)
  · replace h1 : ((!decide (t.kind = 1) || !plainB t) || decide ((50 : Int) < (depthN t : Nat))) = true := h1
    refine sc_seq fun K4 hK4 => ?_
    refine sc_text [3] ?_
    refine sr_pu rfl (fun _ => rd_assign ev_c) ?_
    refine sr_sub [(1, _, _), (2, _, _)] (sub_cons rfl (sub_cons rfl (sub_nil _))) ?_
    refine sr_nil (hK4 _ _ ?_)
    refine sc_ret (t_ret1 rfl rfl ?_)
    refine ⟨congrArg Value.bool ?_, g⟩
    rw [h1]; rfl
  · replace h1 : ((!decide (t.kind = 1) || !plainB t) || decide ((50 : Int) < (depthN t : Nat))) = false := h1
    refine sc_skip (hK2 _ _ ?_)
    refine sc_sub [(1, _, _), (2, _, _)] (sub_cons rfl (sub_cons rfl (sub_nil _))) ?_
    refine sc_seq fun K5 hK5 => ?_
    refine sc_seq fun K6 hK6 => ?_
    refine sc_text [3] ?_
    refine sr_pu rfl (fun _ => rd_assign ev_c) ?_
    refine sr_nil (hK6 _ _ ?_)
    refine sc_block ?_
    refine sc_loop2 (fun (i : Nat) u1 => (i ≤ t.kids.length ∧ ∀ j, (h : j < t.kids.length) → j < i → declB t.kids[j] = true) ∧ G w14 u1) [(1, True, _)] (fun (i : Nat) => [(3, True, .int .i64 i)]) (fun (i : Nat) => t.kids.length - i) (0) ⟨⟨Nat.zero_le _, fun j _ hj => absurd hj (Nat.not_lt_zero j)⟩, G.refl _⟩ (sub_cons rfl (sub_cons rfl (sub_nil _))) ?_
    rintro i u1 ⟨hI1, gl1⟩
    have g := g.trans gl1
    replace B1 := B1.grow (gl1)
    refine sc_seq fun K7 hK7 => ?_
    refine sc_seq fun K8 hK8 => ?_
    refine sc_text [3, 3, 0, 3, 3] ?_
    refine sr_pu rfl (fun _ => rd_move (ev_t rfl)) ?_
    refine sr_pu rfl (fun _ => rd_field fo_api_Node_4 (ev_t rfl)) ?_
    refine sr_rd rfl (rd_load one_sl_api_Node (ev_t rfl) (fun _ => B1.at_ rfl)) ?_
    refine sr_pu rfl (fun _ => rd_len el_sl_api_Node (ev_t rfl)) ?_
    refine sr_pu rfl (fun _ => rd_lt (ev_t rfl) (ev_t rfl)) ?_
    refine sr_sub [(1, _, _), (3, _, _), (21, _, _)] (sub_cons rfl (sub_cons rfl (sub_cons rfl (sub_nil _)))) ?_
    refine sr_nil (hK8 _ _ ?_)
    refine sc_cond (ev_t rfl) (fun h2 => ?_) (fun h2 => ?_)
    · replace h2 : i < t.kids.length := by simp only [decide_eq_true_eq] at h2; omega
      obtain ⟨hpe, p2, c2, hcell, hkid⟩ := kd_opt hk0 h2
      have hck := count_kidAt h2
      refine sc_skip (hK7 _ _ ?_)
      refine sc_sub [(1, _, _), (3, _, _)] (sub_cons rfl (sub_cons rfl (sub_nil _))) ?_
      refine sc_seq fun K9 hK9 => ?_
      refine sc_block ?_
      refine sc_seq fun K10 hK10 => ?_
      refine sc_text [3, 0, 3, 3, 0, 1, 3] ?_
      refine sr_pu rfl (fun _ => rd_field fo_api_Node_4 (ev_t rfl)) ?_
      refine sr_rd rfl (rd_load one_sl_api_Node (ev_t rfl) (fun _ => B1.at_ rfl)) ?_
      refine sr_pu rfl (fun _ => rd_move (ev_t rfl)) ?_
      refine sr_pu rfl (fun _ => rd_idxq el_sl_api_Node (ev_t rfl) (ev_t rfl) (fun _ => by omega) (fun _ => hpe)) ?_
      refine sr_rd rfl (rd_loads agg_api_Node (ev_t rfl) rfl (fun _ => hcell.grow g)) ?_
      refine sr_pure rfl (rc_call go_r03_isDecl ev_f (args_cons (ev_t rfl) (args_nil)) rfl) (isdecl_ok _ _ _ D _ (hkid.grow g) (by omega)) (fun w29 g29 => ?_)
      have g := g.trans (g29)
      try have gl1 := gl1.trans (g29)
      replace B1 := B1.grow (g29)
      refine sr_pu rfl (fun _ => rd_not (ev_t rfl)) ?_
      refine sr_sub [(1, _, _), (3, _, _), (30, _, _)] (sub_cons rfl (sub_cons rfl (sub_cons rfl (sub_nil _)))) ?_
      refine sr_nil (hK10 _ _ ?_)
      refine sc_cond (ev_t rfl) (fun h3 => ?_) (fun h3 => ?_)
      · (try simp only [bsimp] at h3)
        refine sc_seq fun K11 hK11 => ?_
        refine sc_text [3] ?_
        refine sr_pu rfl (fun _ => rd_assign ev_c) ?_
        refine sr_sub [(1, _, _), (2, _, _), (3, _, _)] (sub_cons rfl (sub_cons rfl (sub_cons rfl (sub_nil _)))) ?_
        refine sr_nil (hK11 _ _ ?_)
        refine sc_ret (t_ret1 rfl rfl ?_)
        refine ⟨congrArg Value.bool ?_, g⟩
        rw [h1, cond_false, eq_comm, List.all_eq_false]
        exact ⟨_, List.getElem_mem h2, by rw [← kidAt_eq h2]; simpa using h3⟩
      · (try simp only [bsimp] at h3)
        refine sc_skip (hK9 _ _ ?_)
        refine sc_sub [(1, _, _), (3, _, _)] (sub_cons rfl (sub_cons rfl (sub_nil _))) ?_
        refine sc_text [3, 3, 3] ?_
        refine sr_pu rfl (fun _ => rd_move (ev_t rfl)) ?_
        refine sr_pu rfl (fun _ => rd_add (ev_t rfl) ev_c (fun _ => by omega)) ?_
        refine sr_pu rfl (fun _ => rd_assign (ev_t rfl)) ?_
        refine sr_sub [(3, _, _), (1, _, _)] (sub_cons rfl (sub_cons rfl (sub_nil _))) ?_
        refine sr_nil (fun a ha => ?_)
        refine ⟨i + 1, ha, ⟨⟨h2, fun j h hj => ?_⟩, gl1⟩, by omega⟩
        by_cases e : j = i
        · subst e; rw [← kidAt_eq h2]; simpa using h3
        · exact hI1.2 j h (by omega)
    · (try simp only [bsimp] at h2)
      refine sc_exit rfl (hK5 _ _ ?_)
      refine sc_sub [] (sub_nil _) ?_
      refine sc_seq fun K12 hK12 => ?_
      refine sc_text [3] ?_
      refine sr_pu rfl (fun _ => rd_assign ev_c) ?_
      refine sr_nil (hK12 _ _ ?_)
      refine sc_ret (t_ret1 rfl rfl ?_)
      refine ⟨congrArg Value.bool ?_, g⟩
      rw [h1, cond_false, eq_comm, List.all_eq_true]
      intro x hx
      obtain ⟨j, hj, rfl⟩ := List.getElem_of_mem hx
      exact hI1.2 j hj (by simp only [decide_eq_false_iff_not] at h2; omega)
end Go.Rk
