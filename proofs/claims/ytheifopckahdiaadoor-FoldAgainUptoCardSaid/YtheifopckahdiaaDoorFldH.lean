/- Folding: the laws on trees. Conditions: what start-up laid. -/
import Derived.Test.YtheifopckahdiaaDoorFldE
import Derived.Test.YtheifopckahdiaaDoorFldG
namespace Go.Rk
open Go Go.RowKit
theorem foldT_reb {t : Nd} (h1 : valO t = none) (h2 : t.kind ≠ 18) : foldT t = rebT t := by
  have hv : (valC t).2 = false := by
    cases h : (valC t).2 with
    | false => rfl
    | true => rw [valO, h] at h1; cases h1
  rw [foldT_eq, foldF, hv, decide_eq_false h2]; rfl
theorem fold_print (n : Nd) : foldT (printT n) = printT (foldT n) := by
  have a1 : foldT paN = paN := by rw [foldT_reb (valO_none (by decide) (by decide) (by decide) (by decide)) (by decide)]; rfl
  have a2 : foldT noN = noN := by rw [foldT_reb (valO_none (by decide) (by decide) (by decide) (by decide)) (by decide)]; rfl
  have k : ∀ (t : Nd) (k : Int), t.kind = k → k ≠ 18 → k ≠ 24 → k ≠ 25 → k ≠ 31 → k ≠ 32 → foldT t = rebT t := fun t k h h1 h2 h3 h4 h5 => foldT_reb (valO_none (by omega) (by omega) (by omega) (by omega)) (by omega)
  have a3 : foldT (prN n) = prN (foldT n) := by rw [k (prN n) 21 rfl (by decide) (by decide) (by decide) (by decide) (by decide)]; rfl
  have a4 : foldT (blN n) = blN (foldT n) := by
    rw [k (blN n) 10 rfl (by decide) (by decide) (by decide) (by decide) (by decide)]
    show Nd.mk 10 [] 0 0 [foldT (prN n)] ty0 0 0 = _
    rw [a3]; rfl
  have a5 : foldT (fuN n) = fuN (foldT n) := by
    rw [k (fuN n) 4 rfl (by decide) (by decide) (by decide) (by decide) (by decide)]
    show Nd.mk 4 [102] 0 0 [foldT paN, foldT noN, foldT (blN n)] ty0 0 0 = _
    rw [a1, a2, a4]; rfl
  rw [k (printT n) 1 rfl (by decide) (by decide) (by decide) (by decide) (by decide)]
  show Nd.mk 1 [] 0 0 [foldT (fuN n)] ty0 0 0 = _
  rw [a5]; rfl
theorem printed_print (n : Nd) : printedT (printT n) = n := rfl
theorem count_print (n : Nd) : count (printT n) = count n + 6 := by
  have c1 : count (prN n) = count n + 1 := by rw [count_eq]; show 1 + (count n + 0) = _; omega
  have c2 : count (blN n) = count n + 2 := by rw [count_eq]; show 1 + (count (prN n) + 0) = _; omega
  have c3 : count (fuN n) = count n + 5 := by
    rw [count_eq]; show 1 + (count paN + (count noN + (count (blN n) + 0))) = _
    rw [count_leaf (show paN.kids = [] from rfl), count_leaf (show noN.kids = [] from rfl)]; omega
  rw [count_eq]; show 1 + (count (fuN n) + 0) = _; omega
theorem perm_print {n : Nd} (h : validB (printT n) = true) : permF n = true :=
  perm_kid (t := prN n) (perm_kid (t := blN n) (perm_kid (t := fuN n) (perm_kid (t := printT n) (validB_perm h) (List.mem_singleton.2 rfl)) (List.mem_cons_of_mem _ (List.mem_cons_of_mem _ (List.mem_singleton.2 rfl)))) (List.mem_singleton.2 rfl)) (List.mem_singleton.2 rfl)
theorem res_valO {a b : Nd} (h : valO a = valO b) : (bif (valC a).2 then (valC a).1.2 else 0) = (bif (valC b).2 then (valC b).1.2 else 0) ∧ (valC a).2 = (valC b).2 := by
  unfold valO at h
  cases ha : (valC a).2 <;> cases hb : (valC b).2 <;> rw [ha, hb] at h
  · exact ⟨rfl, rfl⟩
  · cases h
  · cases h
  · injection h with h; rw [h]; exact ⟨rfl, rfl⟩
theorem fkeeps_law (t : Nd) (v : Value) (D : Nat → Prop) (w : World) (hL : Laid w) (hb3 : 4 ≤ w.heap.size) (hk : Kd w D t.kids v) (hok : okNd t) (hcn : count t ≤ 1048576) : Ret PP fn_l07_FoldKeepsValue #[ndV t v] w fun v w' => v = .bool true ∧ G w w' := by
  have hk0 := hk
  obtain ⟨p, c, rfl, hcap, hks⟩ := hk
  have g := G.refl w
  have hln := kids_le t
  have hcp := count_print t
  refine ret_of_sc (m := 39) func_l07_FoldKeepsValue rfl rfl [(0, True, _)] (sub_cons rfl (sub_nil _)) ?_
  refine sc_seq fun K1 hK1 => ?_
  refine sc_text [1, 3] ?_
  refine sr_box rfl (ev_t rfl) rfl ?_
  intro b1 w1 N1
  have l1 := N1.ge g
  have g := g.trans (N1.g)
  have B1 := N1.blk
  refine sr_pu rfl (fun _ => rd_assign ev_c) ?_
  refine sr_sub [(1, _, _), (2, _, _)] (sub_cons rfl (sub_cons rfl (sub_nil _))) ?_
  refine sr_nil (hK1 _ _ ?_)
  refine sc_seq fun K2 hK2 => ?_
  refine sc_seq fun K3 hK3 => ?_
  refine sc_text [1, 3] ?_
  refine sr_pure rfl (rc_call go_l07_awake ev_f (args_nil) rfl) (awake7_ok _ (hL.grow g) (by have := g.size; omega)) (fun w7 g7 => ?_)
  have g := g.trans (g7)
  replace B1 := B1.grow (g7)
  refine sr_pu rfl (fun _ => rd_not (ev_t rfl)) ?_
  refine sr_sub [(1, _, _), (2, _, _), (8, _, _)] (sub_cons rfl (sub_cons rfl (sub_cons rfl (sub_nil _)))) ?_
  refine sr_nil (hK3 _ _ ?_)
  refine sc_false (ev_t rfl) ?_
  refine sc_skip (hK2 _ _ ?_)
  refine sc_sub [(1, _, _), (2, _, _)] (sub_cons rfl (sub_cons rfl (sub_nil _))) ?_
  refine sc_seq fun K4 hK4 => ?_
  refine sc_seq fun K5 hK5 => ?_
  refine sc_text [0, 1, 3, 3, 0, 1, 1, 3, 3] ?_
  refine sr_rd rfl (rd_loads agg_api_Node (ev_t rfl) rfl (fun _ => B1.row)) ?_
  refine sr_pure rfl (rc_call go_r03_Count ev_f (args_cons (ev_t rfl) (args_nil)) rfl) (rcount_ok t _ _ _ (hk0.grow g) (by omega)) (fun w10 g10 => ?_)
  have g := g.trans (g10)
  replace B1 := B1.grow (g10)
  refine sr_pu rfl (fun _ => rd_gt (ev_t rfl) ev_c) ?_
  refine sr_pu rfl (fun _ => rd_move (ev_t rfl)) ?_
  refine sr_rdg rfl rfl rfl (rd_loads agg_api_Node (ev_t rfl) rfl (fun _ => B1.row)) ?_
  refine sr_callq rfl rfl rfl (fun _ => rc_call go_l07_printing ev_f (args_cons (ev_u rfl id) (args_nil)) rfl) (fun hc => lprinting_ok t _ _ _ (hk0.grow g)) ?_
  intro v14 w14 hv14 g14
  have g := g.trans (g14)
  replace B1 := B1.grow (g14)
  refine sr_pureg rfl rfl rfl (fun _ => (rc_call go_r03_Valid ev_f (args_cons (ev_u rfl id) (args_nil)) rfl)) (fun hc => (show Ret PP _ _ w14 (fun r w' => r = .bool (validB (printT t)) ∧ G w14 w') from by obtain ⟨p, c, e, hk⟩ := hv14 hc; rw [e]; exact rvalid03_ok _ _ _ _ hk (by have := hc.2; simp only [decide_eq_false_iff_not] at this; omega))) (fun w15 g15 => ?_)
  have g := g.trans (g15)
  replace B1 := B1.grow (g15)
  refine sr_pug rfl rfl rfl (fun _ => rd_not (ev_u rfl id)) ?_
  refine sr_pu rfl (fun _ => rd_pick_or (ev_t rfl) (ev_u rfl id)) ?_
  refine sr_sub [(1, _, _), (2, _, _), (17, _, _)] (sub_cons rfl (sub_cons rfl (sub_cons rfl (sub_nil _)))) ?_
  refine sr_nil (hK5 _ _ ?_)
  refine sc_cond (ev_t rfl) (fun h2 => ?_) (fun h2 => ?_)
  · (try simp only [bsimp] at h2)
    refine sc_seq fun K6 hK6 => ?_
    refine sc_text [3] ?_
    refine sr_pu rfl (fun _ => rd_assign ev_c) ?_
    refine sr_sub [(1, _, _), (2, _, _)] (sub_cons rfl (sub_cons rfl (sub_nil _))) ?_
    refine sr_nil (hK6 _ _ ?_)
    refine sc_ret (t_ret1 rfl rfl ?_)
    exact ⟨rfl, g⟩
  · rw [Bool.or_eq_false_iff, decide_eq_false_iff_not, Bool.not_eq_false'] at h2
    have hp := perm_print h2.2
    have hc1 : count t ≤ 100 := by have := h2.1; omega
    refine sc_skip (hK4 _ _ ?_)
    refine sc_sub [(1, _, _), (2, _, _)] (sub_cons rfl (sub_cons rfl (sub_nil _))) ?_
    refine sc_seq fun K7 hK7 => ?_
    refine sc_text [0, 1, 3, 3, 3, 3, 3] ?_
    refine sr_rd rfl (rd_loads agg_api_Node (ev_t rfl) rfl (fun _ => B1.row)) ?_
    refine sr_pure rfl (rc_call go_fold_Value ev_f (args_cons (ev_t rfl) (args_nil)) rfl) (fValue_ok t _ D _ (hk0.grow g)) (fun w20 g20 => ?_)
    have g := g.trans (g20)
    replace B1 := B1.grow (g20)
    refine sr_pu rfl (fun _ => rd_move (ev_t rfl)) ?_
    refine sr_pu rfl (fun _ => rd_extract (ev_t rfl) rfl) ?_
    refine sr_pu rfl (fun _ => rd_extract (ev_t rfl) rfl) ?_
    refine sr_pu rfl (fun _ => rd_assign (ev_t rfl)) ?_
    refine sr_pu rfl (fun _ => rd_assign (ev_t rfl)) ?_
    refine sr_sub [(1, _, _), (2, _, _), (3, _, _), (4, _, _)] (sub_cons rfl (sub_cons rfl (sub_cons rfl (sub_cons rfl (sub_nil _))))) ?_
    refine sr_nil (hK7 _ _ ?_)
    refine sc_seq fun K8 hK8 => ?_
    refine sc_text [0, 1, 1, 1, 1, 3, 3, 3, 3, 3] ?_
    refine sr_rd rfl (rd_loads agg_api_Node (ev_t rfl) rfl (fun _ => B1.row)) ?_
    refine sr_call rfl (rc_call go_l07_printing ev_f (args_cons (ev_t rfl) (args_nil)) rfl) (lprinting_ok t _ _ _ (hk0.grow g)) ?_
    rintro v25 w25 ⟨⟨p25, c25, rfl, hk25⟩, g25⟩
    refine ⟨fun _ => g25, ?_⟩
    have g := g.trans g25
    replace B1 := B1.grow (g25)
    refine sr_call rfl (rc_call go_fold_File ev_f (args_cons (ev_t rfl) (args_nil)) rfl) (ffile_ok (printT t) _ _ _ (hL.grow g) (by have := g.size; omega) hk25 (by omega)) ?_
    rintro v26 w26 ⟨⟨p26, c26, rfl, hk26⟩, g26⟩
    refine ⟨fun _ => g26, ?_⟩
    have g := g.trans g26
    replace B1 := B1.grow (g26)
    refine sr_call rfl (rc_call go_l07_printed ev_f (args_cons (ev_t rfl) (args_nil)) rfl) (lprinted_ok _ _ _ _ hk26) ?_
    rintro v27 w27 ⟨⟨p27, c27, rfl, hk27⟩, g27⟩
    refine ⟨fun _ => g27, ?_⟩
    have g := g.trans g27
    replace B1 := B1.grow (g27)
    refine sr_pure rfl (rc_call go_fold_Value ev_f (args_cons (ev_t rfl) (args_nil)) rfl) (fValue_ok _ _ _ _ hk27) (fun w28 g28 => ?_)
    have g := g.trans (g28)
    replace B1 := B1.grow (g28)
    refine sr_pu rfl (fun _ => rd_move (ev_t rfl)) ?_
    refine sr_pu rfl (fun _ => rd_extract (ev_t rfl) rfl) ?_
    refine sr_pu rfl (fun _ => rd_extract (ev_t rfl) rfl) ?_
    refine sr_pu rfl (fun _ => rd_assign (ev_t rfl)) ?_
    refine sr_pu rfl (fun _ => rd_assign (ev_t rfl)) ?_
    refine sr_sub [(2, _, _), (3, _, _), (4, _, _), (5, _, _), (6, _, _)] (sub_cons rfl (sub_cons rfl (sub_cons rfl (sub_cons rfl (sub_cons rfl (sub_nil _)))))) ?_
    refine sr_nil (hK8 _ _ ?_)
    refine sc_seq fun K9 hK9 => ?_
    refine sc_text [3, 3, 3, 3, 3, 3, 3, 3, 3] ?_
    refine sr_pu rfl (fun _ => rd_move (ev_t rfl)) ?_
    refine sr_pu rfl (fun _ => rd_move (ev_t rfl)) ?_
    refine sr_pu rfl (fun _ => rd_eq (ev_t rfl) (ev_t rfl)) ?_
    refine sr_pu rfl (fun _ => rd_move (ev_t rfl)) ?_
    refine sr_pug rfl rfl rfl (fun _ => rd_move (ev_t rfl)) ?_
    refine sr_pug rfl rfl rfl (fun _ => rd_move (ev_t rfl)) ?_
    refine sr_pug rfl rfl rfl (fun _ => rd_beq und_bool (ev_u rfl id) (ev_u rfl id)) ?_
    refine sr_pu rfl (fun _ => rd_pick_and (ev_t rfl) (ev_u rfl id)) ?_
    refine sr_pu rfl (fun _ => rd_assign (ev_t rfl)) ?_
    refine sr_sub [(2, _, _)] (sub_cons rfl (sub_nil _)) ?_
    refine sr_nil (hK9 _ _ ?_)
    refine sc_ret (t_ret1 rfl rfl ?_)
    refine ⟨congrArg Value.bool ?_, g⟩
    have e : printedT (fileT (printT t)) = foldT t := by rw [fileT, h2.2, cond_true, fold_print, printed_print]
    obtain ⟨e1, e2⟩ := res_valO (valO_fold t hp hok)
    rw [e, e1, e2]; simp
theorem fileT_count {t : Nd} (hv : validB t = true) (hok : okNd t) : count (fileT t) ≤ count t := by
  rw [fileT, hv]; exact (size_fold t (validB_perm hv) hok).2
theorem valid_kidlen {x : Nd} {c : Cst} (h : valO x = some c) (hk : x.kind = 31) : x.kids.length = 1 := by
  rcases valO_kind h with e | e | e | e <;> omega
theorem fconst_law (t : Nd) (v : Value) (D : Nat → Prop) (w : World) (hL : Laid w) (hb3 : 4 ≤ w.heap.size) (hk : Kd w D t.kids v) (hok : okNd t) (hcn : count t ≤ 1048576) : Ret PP fn_l07_FoldConstants #[ndV t v] w fun v w' => v = .bool true ∧ G w w' := by
  have hk0 := hk
  obtain ⟨p, c, rfl, hcap, hks⟩ := hk
  have g := G.refl w
  have hln := kids_le t
  refine ret_of_sc (m := 88) func_l07_FoldConstants rfl rfl [(0, True, _)] (sub_cons rfl (sub_nil _)) ?_
  refine sc_seq fun K1 hK1 => ?_
  refine sc_text [1, 3] ?_
  refine sr_box rfl (ev_t rfl) rfl ?_
  intro b1 w1 N1
  have l1 := N1.ge g
  have g := g.trans (N1.g)
  have B1 := N1.blk
  refine sr_pu rfl (fun _ => rd_assign ev_c) ?_
  refine sr_sub [(1, _, _), (2, _, _)] (sub_cons rfl (sub_cons rfl (sub_nil _))) ?_
  refine sr_nil (hK1 _ _ ?_)
  refine sc_seq fun K2 hK2 => ?_
  refine sc_seq fun K3 hK3 => ?_
  refine sc_text [1, 3] ?_
  refine sr_pure rfl (rc_call go_l07_awake ev_f (args_nil) rfl) (awake7_ok _ (hL.grow g) (by have := g.size; omega)) (fun w8 g8 => ?_)
  have g := g.trans (g8)
  replace B1 := B1.grow (g8)
  refine sr_pu rfl (fun _ => rd_not (ev_t rfl)) ?_
  refine sr_sub [(1, _, _), (2, _, _), (9, _, _)] (sub_cons rfl (sub_cons rfl (sub_cons rfl (sub_nil _)))) ?_
  refine sr_nil (hK3 _ _ ?_)
  refine sc_false (ev_t rfl) ?_
  refine sc_skip (hK2 _ _ ?_)
  refine sc_sub [(1, _, _), (2, _, _)] (sub_cons rfl (sub_cons rfl (sub_nil _))) ?_
  refine sc_seq fun K4 hK4 => ?_
  refine sc_seq fun K5 hK5 => ?_
  refine sc_text [0, 1, 3, 3, 0, 1, 3, 3] ?_
  refine sr_rd rfl (rd_loads agg_api_Node (ev_t rfl) rfl (fun _ => B1.row)) ?_
  refine sr_pure rfl (rc_call go_r03_Count ev_f (args_cons (ev_t rfl) (args_nil)) rfl) (rcount_ok t _ _ _ (hk0.grow g) (by omega)) (fun w11 g11 => ?_)
  have g := g.trans (g11)
  replace B1 := B1.grow (g11)
  refine sr_pu rfl (fun _ => rd_gt (ev_t rfl) ev_c) ?_
  refine sr_pu rfl (fun _ => rd_move (ev_t rfl)) ?_
  refine sr_rdg rfl rfl rfl (rd_loads agg_api_Node (ev_t rfl) rfl (fun _ => B1.row)) ?_
  refine sr_pureg rfl rfl rfl (fun _ => (rc_call go_r03_Valid ev_f (args_cons (ev_u rfl id) (args_nil)) rfl)) (fun hc => rvalid03_ok t _ D _ (hk0.grow g) (by have := hc.2; simp only [decide_eq_false_iff_not] at this; omega)) (fun w15 g15 => ?_)
  have g := g.trans (g15)
  replace B1 := B1.grow (g15)
  refine sr_pug rfl rfl rfl (fun _ => rd_not (ev_u rfl id)) ?_
  refine sr_pu rfl (fun _ => rd_pick_or (ev_t rfl) (ev_u rfl id)) ?_
  refine sr_sub [(1, _, _), (2, _, _), (17, _, _)] (sub_cons rfl (sub_cons rfl (sub_cons rfl (sub_nil _)))) ?_
  refine sr_nil (hK5 _ _ ?_)
  refine sc_cond (ev_t rfl) (fun h2 => ?_) (fun h2 => ?_)
  · (try simp only [bsimp] at h2)
    refine sc_seq fun K6 hK6 => ?_
    refine sc_text [3] ?_
    refine sr_pu rfl (fun _ => rd_assign ev_c) ?_
    refine sr_sub [(1, _, _), (2, _, _)] (sub_cons rfl (sub_cons rfl (sub_nil _))) ?_
    refine sr_nil (hK6 _ _ ?_)
    refine sc_ret (t_ret1 rfl rfl ?_)
    exact ⟨rfl, g⟩
  · rw [Bool.or_eq_false_iff, decide_eq_false_iff_not, Bool.not_eq_false'] at h2
    have hvv := h2.2
    have hp := validB_perm hvv
    have hc1 : count t ≤ 250 := by have := h2.1; omega
    have hfc := fileT_count hvv hok
    have hfe : fileT t = foldT t := by rw [fileT, hvv]; rfl
    refine sc_skip (hK4 _ _ ?_)
    refine sc_sub [(1, _, _), (2, _, _)] (sub_cons rfl (sub_cons rfl (sub_nil _))) ?_
    refine sc_seq fun K7 hK7 => ?_
    refine sc_text [0, 1, 1, 3] ?_
    refine sr_rd rfl (rd_loads agg_api_Node (ev_t rfl) rfl (fun _ => B1.row)) ?_
    refine sr_call rfl (rc_call go_fold_File ev_f (args_cons (ev_t rfl) (args_nil)) rfl) (ffile_ok t _ _ _ (hL.grow g) (by have := g.size; omega) (hk0.grow g) (by omega)) ?_
    rintro v19 w19 ⟨⟨p19, c19, rfl, hk19⟩, g19⟩
    refine ⟨fun _ => g19, ?_⟩
    have g := g.trans g19
    replace B1 := B1.grow (g19)
    refine sr_call rfl (rc_call go_r03_List ev_f (args_cons (ev_t rfl) (args_nil)) rfl) (rlist_ok (fileT t) _ _ _ hk19 (by omega)) ?_
    rintro v20 w20 ⟨hl, g20⟩
    obtain ⟨pl, cl, rfl, hcl, hrl⟩ := hl
    refine ⟨fun _ => g20, ?_⟩
    have g := g.trans g20
    have hll := listN_length (fileT t)
    replace B1 := B1.grow (g20)
    have gm := G.refl w20
    refine sr_pu rfl (fun _ => rd_assign (ev_t rfl)) ?_
    refine sr_sub [(2, _, _), (3, _, _)] (sub_cons rfl (sub_cons rfl (sub_nil _))) ?_
    refine sr_nil (hK7 _ _ ?_)
    refine sc_seq fun K8 hK8 => ?_
    refine sc_seq fun K9 hK9 => ?_
    refine sc_text [3] ?_
    refine sr_pu rfl (fun _ => rd_assign ev_c) ?_
    refine sr_nil (hK9 _ _ ?_)
    refine sc_block ?_
    refine sc_loop2 (fun (i : Nat) u1 => (i ≤ (listN (fileT t)).length) ∧ G w20 u1) [(3, True, _)] (fun (i : Nat) => [(4, True, .int .i64 i)]) (fun (i : Nat) => (listN (fileT t)).length - i) (0) ⟨by simp, G.refl _⟩ (sub_cons rfl (sub_cons rfl (sub_nil _))) ?_
    rintro i u1 ⟨hI1, gl1⟩
    have g := g.trans gl1
    have gm := gm.trans gl1
    replace B1 := B1.grow (gl1)
    refine sc_seq fun K10 hK10 => ?_
    refine sc_seq fun K11 hK11 => ?_
    refine sc_text [3, 3, 3, 3] ?_
    refine sr_pu rfl (fun _ => rd_move (ev_t rfl)) ?_
    refine sr_pu rfl (fun _ => rd_move (ev_t rfl)) ?_
    refine sr_pu rfl (fun _ => rd_len el_sl_api_Node (ev_t rfl)) ?_
    refine sr_pu rfl (fun _ => rd_lt (ev_t rfl) (ev_t rfl)) ?_
    refine sr_sub [(3, _, _), (4, _, _), (24, _, _)] (sub_cons rfl (sub_cons rfl (sub_cons rfl (sub_nil _)))) ?_
    refine sr_nil (hK11 _ _ ?_)
    refine sc_cond (ev_t rfl) (fun h3 => ?_) (fun h3 => ?_)
    · replace h3 : i < (listN (fileT t)).length := by simp only [decide_eq_true_eq] at h3; omega
      obtain ⟨b, o, rfl, hD, xs, hR, hX⟩ := hrl (by omega)
      obtain ⟨p', c', hcell, hkid⟩ := kd_at hR hX h3
      have hfact := list_fold t hp hok _ (by rw [← hfe]; exact List.getElem_mem h3)
      obtain ⟨px, cx, hx0⟩ := kd_optx hkid 0
      refine sc_skip (hK10 _ _ ?_)
      refine sc_sub [(3, _, _), (4, _, _)] (sub_cons rfl (sub_cons rfl (sub_nil _))) ?_
      refine sc_seq fun K12 hK12 => ?_
      refine sc_block ?_
      refine sc_seq fun K13 hK13 => ?_
      refine sc_text [3, 3, 3, 0, 1, 3, 3, 3, 3, 3] ?_
      refine sr_pu rfl (fun _ => rd_move (ev_t rfl)) ?_
      refine sr_pu rfl (fun _ => rd_move (ev_t rfl)) ?_
      refine sr_pu rfl (fun _ => rd_idx el_sl_api_Node (ev_t rfl) (ev_t rfl) (fun _ => by omega)) ?_
      refine sr_rd rfl (rd_loads agg_api_Node (ev_t rfl) rfl (fun _ => hcell.grow gm)) ?_
      refine sr_pure rfl (rc_call go_fold_Value ev_f (args_cons (ev_t rfl) (args_nil)) rfl) (fValue_ok _ _ _ _ (hkid.grow gm)) (fun w32 g32 => ?_)
      have g := g.trans (g32)
      try have gm := gm.trans (g32)
      try have gl1 := gl1.trans (g32)
      replace B1 := B1.grow (g32)
      refine sr_pu rfl (fun _ => rd_move (ev_t rfl)) ?_
      refine sr_pu rfl (fun _ => rd_extract (ev_t rfl) rfl) ?_
      refine sr_pu rfl (fun _ => rd_extract (ev_t rfl) rfl) ?_
      refine sr_pu rfl (fun _ => rd_assign (ev_t rfl)) ?_
      refine sr_pu rfl (fun _ => rd_assign (ev_t rfl)) ?_
      refine sr_sub [(3, _, _), (4, _, _), (5, _, _), (6, _, _)] (sub_cons rfl (sub_cons rfl (sub_cons rfl (sub_cons rfl (sub_nil _))))) ?_
      refine sr_nil (hK13 _ _ ?_)
      refine sc_seq fun K14 hK14 => ?_
      refine sc_seq fun K15 hK15 => ?_
      refine sc_text [3, 3, 3, 3, 3, 3, 3, 0, 3, 3, 3, 3, 3, 3, 3, 0, 3, 3] ?_
      refine sr_pu rfl (fun _ => rd_move (ev_t rfl)) ?_
      refine sr_pu rfl (fun _ => rd_not (ev_t rfl)) ?_
      refine sr_pu rfl (fun _ => rd_move (ev_t rfl)) ?_
      refine sr_pug rfl rfl rfl (fun _ => rd_move (ev_t rfl)) ?_
      refine sr_pug rfl rfl rfl (fun _ => rd_move (ev_t rfl)) ?_
      refine sr_pug rfl rfl rfl (fun _ => rd_idx el_sl_api_Node (ev_u rfl id) (ev_u rfl id) (fun _ => by omega)) ?_
      refine sr_pug rfl rfl rfl (fun _ => rd_field fo_api_Node_0 (ev_u rfl id)) ?_
      refine sr_rdg rfl rfl rfl (rd_load one_int (ev_u rfl id) (fun _ => (hcell.grow gm) 0 _ rfl)) ?_
      refine sr_pug rfl rfl rfl (fun _ => rd_eq (ev_u rfl id) ev_c) ?_
      refine sr_pu rfl (fun _ => rd_pick_or (ev_t rfl) (ev_u rfl id)) ?_
      refine sr_pu rfl (fun _ => rd_move (ev_t rfl)) ?_
      refine sr_pug rfl rfl rfl (fun _ => rd_move (ev_t rfl)) ?_
      refine sr_pug rfl rfl rfl (fun _ => rd_move (ev_t rfl)) ?_
      refine sr_pug rfl rfl rfl (fun _ => rd_idx el_sl_api_Node (ev_u rfl id) (ev_u rfl id) (fun _ => by omega)) ?_
      refine sr_pug rfl rfl rfl (fun _ => rd_field fo_api_Node_0 (ev_u rfl id)) ?_
      refine sr_rdg rfl rfl rfl (rd_load one_int (ev_u rfl id) (fun _ => (hcell.grow gm) 0 _ rfl)) ?_
      refine sr_pug rfl rfl rfl (fun _ => rd_eq (ev_u rfl id) ev_c) ?_
      refine sr_pu rfl (fun _ => rd_pick_or (ev_t rfl) (ev_u rfl id)) ?_
      refine sr_sub [(3, _, _), (4, _, _), (5, _, _), (52, _, _)] (sub_cons rfl (sub_cons rfl (sub_cons rfl (sub_cons rfl (sub_nil _))))) ?_
      refine sr_nil (hK15 _ _ ?_)
      refine sc_cond (ev_t rfl) (fun h4 => ?_) (fun h4 => ?_)
      · (try simp only [bsimp] at h4)
        refine sc_exit rfl (hK12 _ _ ?_)
        refine sc_sub [(3, _, _), (4, _, _)] (sub_cons rfl (sub_cons rfl (sub_nil _))) ?_
        refine sc_text [3, 3, 3] ?_
        refine sr_pu rfl (fun _ => rd_move (ev_t rfl)) ?_
        refine sr_pu rfl (fun _ => rd_add (ev_t rfl) ev_c (fun _ => by omega)) ?_
        refine sr_pu rfl (fun _ => rd_assign (ev_t rfl)) ?_
        refine sr_sub [(4, _, _), (3, _, _)] (sub_cons rfl (sub_cons rfl (sub_nil _))) ?_
        refine sr_nil (fun a ha => ?_)
        exact ⟨i + 1, ha, ⟨h3, gl1⟩, by omega⟩
      · have hf := h4
        rw [Bool.or_eq_false_iff, Bool.or_eq_false_iff, Bool.not_eq_false', decide_eq_false_iff_not, decide_eq_false_iff_not] at hf
        have hvo : valO (listN (fileT t))[i] = some (valC (listN (fileT t))[i]).1 := valO_iff.2 ⟨hf.1.1, rfl⟩
        have hxl := fun h => valid_kidlen hvo h
        have hfa := hfact.2 _ hvo
        refine sc_skip (hK14 _ _ ?_)
        refine sc_sub [(3, _, _), (4, _, _), (5, _, _)] (sub_cons rfl (sub_cons rfl (sub_cons rfl (sub_nil _)))) ?_
        refine sc_seq fun K16 hK16 => ?_
        refine sc_text [3, 3, 3, 3, 0, 3, 3, 3, 3, 3, 3, 0, 3, 3, 3, 3, 3, 3, 3, 0, 3, 3, 0, 3, 3, 3, 3, 3, 3, 3] ?_
        refine sr_pu rfl (fun _ => rd_move (ev_t rfl)) ?_
        refine sr_pu rfl (fun _ => rd_move (ev_t rfl)) ?_
        refine sr_pu rfl (fun _ => rd_idx el_sl_api_Node (ev_t rfl) (ev_t rfl) (fun _ => by omega)) ?_
        refine sr_pu rfl (fun _ => rd_field fo_api_Node_0 (ev_t rfl)) ?_
        refine sr_rd rfl (rd_load one_int (ev_t rfl) (fun _ => (hcell.grow gm) 0 _ rfl)) ?_
        refine sr_pu rfl (fun _ => rd_eq (ev_t rfl) ev_c) ?_
        refine sr_pu rfl (fun _ => rd_move (ev_t rfl)) ?_
        refine sr_pug rfl rfl rfl (fun _ => rd_move (ev_t rfl)) ?_
        refine sr_pug rfl rfl rfl (fun _ => rd_move (ev_t rfl)) ?_
        refine sr_pug rfl rfl rfl (fun _ => rd_idx el_sl_api_Node (ev_u rfl id) (ev_u rfl id) (fun _ => by omega)) ?_
        refine sr_pug rfl rfl rfl (fun _ => rd_field fo_api_Node_1 (ev_u rfl id)) ?_
        refine sr_rdg rfl rfl rfl (rd_load one_string (ev_u rfl id) (fun _ => (hcell.grow gm) 1 _ rfl)) ?_
        refine sr_pug rfl rfl rfl (fun _ => rd_seq (ev_u rfl id) ev_c) ?_
        refine sr_pu rfl (fun _ => rd_pick_and (ev_t rfl) (ev_u rfl id)) ?_
        refine sr_pu rfl (fun _ => rd_move (ev_t rfl)) ?_
        refine sr_pug rfl rfl rfl (fun _ => rd_move (ev_t rfl)) ?_
        refine sr_pug rfl rfl rfl (fun _ => rd_move (ev_t rfl)) ?_
        refine sr_pug rfl rfl rfl (fun _ => rd_idx el_sl_api_Node (ev_u rfl id) (ev_u rfl id) (fun _ => by omega)) ?_
        refine sr_pug rfl rfl rfl (fun _ => rd_field fo_api_Node_4 (ev_u rfl id)) ?_
        refine sr_rdg rfl rfl rfl (rd_load one_sl_api_Node (ev_u rfl id) (fun _ => (hcell.grow gm) 4 _ rfl)) ?_
        refine sr_pug rfl rfl rfl (fun _ => rd_idxq el_sl_api_Node (ev_u rfl id) ev_c (fun hc => by have := hc.2; simp only [Bool.and_eq_true, decide_eq_true_eq] at this; have := hxl this.1; omega) (fun hc => (hx0 (by have := hc.2; simp only [Bool.and_eq_true, decide_eq_true_eq] at this; have := hxl this.1; omega)).1)) ?_
        refine sr_pug rfl rfl rfl (fun _ => rd_field fo_api_Node_0 (ev_u rfl id)) ?_
        refine sr_rdg rfl rfl rfl (rd_load one_int (ev_u rfl id) (fun hc => ((hx0 (by have := hc.2; simp only [Bool.and_eq_true, decide_eq_true_eq] at this; have := hxl this.1; omega)).2.1.grow gm) 0 _ rfl)) ?_
        refine sr_pug rfl rfl rfl (fun _ => rd_eq (ev_u rfl id) ev_c) ?_
        refine sr_pu rfl (fun _ => rd_pick_and (ev_t rfl) (ev_u rfl id)) ?_
        refine sr_pu rfl (fun _ => rd_move (ev_t rfl)) ?_
        refine sr_pug rfl rfl rfl (fun _ => rd_move (ev_t rfl)) ?_
        refine sr_pug rfl rfl rfl (fun _ => rd_lt (ev_u rfl id) ev_c) ?_
        refine sr_pu rfl (fun _ => rd_pick_and (ev_t rfl) (ev_u rfl id)) ?_
        refine sr_pu rfl (fun _ => rd_assign (ev_t rfl)) ?_
        refine sr_sub [(3, _, _), (4, _, _), (5, _, _), (7, _, _)] (sub_cons rfl (sub_cons rfl (sub_cons rfl (sub_cons rfl (sub_nil _))))) ?_
        refine sr_nil (hK16 _ _ ?_)
        refine sc_seq fun K17 hK17 => ?_
        refine sc_text [3, 3, 3, 3, 3, 3] ?_
        refine sr_pu rfl (fun _ => rd_move (ev_t rfl)) ?_
        refine sr_pu rfl (fun _ => rd_not (ev_t rfl)) ?_
        refine sr_pu rfl (fun _ => rd_move (ev_t rfl)) ?_
        refine sr_pug rfl rfl rfl (fun _ => rd_move (ev_t rfl)) ?_
        refine sr_pug rfl rfl rfl (fun _ => rd_ne (ev_u rfl id) ev_c) ?_
        refine sr_pu rfl (fun _ => rd_pick_and (ev_t rfl) (ev_u rfl id)) ?_
        refine sr_sub [(3, _, _), (4, _, _), (87, _, _)] (sub_cons rfl (sub_cons rfl (sub_cons rfl (sub_nil _)))) ?_
        refine sr_nil (hK17 _ _ ?_)
        refine sc_cond (ev_t rfl) (fun h5 => ?_) (fun h5 => ?_)
        · exfalso
          rw [hf.1.1] at h5
          rcases hfa with e | e | ⟨e1, e2, e3, e4⟩ | e
          · exact hf.1.2 e
          · exact hf.2 e
          · simp [e1, e2, e3, e4] at h5
          · simp [e] at h5
          done
        · (try simp only [bsimp] at h5)
          refine sc_skip (hK12 _ _ ?_)
          refine sc_sub [(3, _, _), (4, _, _)] (sub_cons rfl (sub_cons rfl (sub_nil _))) ?_
          refine sc_text [3, 3, 3] ?_
          refine sr_pu rfl (fun _ => rd_move (ev_t rfl)) ?_
          refine sr_pu rfl (fun _ => rd_add (ev_t rfl) ev_c (fun _ => by omega)) ?_
          refine sr_pu rfl (fun _ => rd_assign (ev_t rfl)) ?_
          refine sr_sub [(4, _, _), (3, _, _)] (sub_cons rfl (sub_cons rfl (sub_nil _))) ?_
          refine sr_nil (fun a ha => ?_)
          exact ⟨i + 1, ha, ⟨h3, gl1⟩, by omega⟩
    · (try simp only [bsimp] at h3)
      refine sc_exit rfl (hK8 _ _ ?_)
      refine sc_sub [] (sub_nil _) ?_
      refine sc_seq fun K18 hK18 => ?_
      refine sc_text [3] ?_
      refine sr_pu rfl (fun _ => rd_assign ev_c) ?_
      refine sr_nil (hK18 _ _ ?_)
      refine sc_ret (t_ret1 rfl rfl ?_)
      exact ⟨rfl, g⟩
theorem perm_list : ∀ (t x : Nd), permF t = true → x ∈ listN t → permF x = true := by
  refine Nd.ind fun t ih x hp hx => ?_
  rcases mem_listN.1 hx with rfl | ⟨k, hk, hx⟩
  · exact hp
  · exact ih k hk x (perm_kid hp hk) hx
theorem valO_no {t : Nd} (h : valO t = none) : (valC t).2 = false := by
  cases hv : (valC t).2 with
  | false => rfl
  | true => rw [valO, hv] at h; cases h
theorem fagain_law (t : Nd) (v : Value) (D : Nat → Prop) (w : World) (hL : Laid w) (hb3 : 4 ≤ w.heap.size) (hk : Kd w D t.kids v) (hok : okNd t) (hcn : count t ≤ 1048576) : Ret PP fn_l07_FoldAgain #[ndV t v] w fun v w' => v = .bool true ∧ G w w' := by
  have hk0 := hk
  obtain ⟨p, c, rfl, hcap, hks⟩ := hk
  have g := G.refl w
  have hln := kids_le t
  refine ret_of_sc (m := 64) func_l07_FoldAgain rfl rfl [(0, True, _)] (sub_cons rfl (sub_nil _)) ?_
  refine sc_seq fun K1 hK1 => ?_
  refine sc_text [1, 3] ?_
  refine sr_box rfl (ev_t rfl) rfl ?_
  intro b1 w1 N1
  have l1 := N1.ge g
  have g := g.trans (N1.g)
  try have hk14 := hk14.grow (N1.g)
  have B1 := N1.blk
  refine sr_pu rfl (fun _ => rd_assign ev_c) ?_
  refine sr_sub [(1, _, _), (2, _, _)] (sub_cons rfl (sub_cons rfl (sub_nil _))) ?_
  refine sr_nil (hK1 _ _ ?_)
  refine sc_seq fun K2 hK2 => ?_
  refine sc_seq fun K3 hK3 => ?_
  refine sc_text [1, 3] ?_
  refine sr_pure rfl (rc_call go_l07_awake ev_f (args_nil) rfl) (awake7_ok _ (hL.grow g) (by have := g.size; omega)) (fun w8 g8 => ?_)
  have g := g.trans (g8)
  replace B1 := B1.grow (g8)
  try have hk14 := hk14.grow (g8)
  refine sr_pu rfl (fun _ => rd_not (ev_t rfl)) ?_
  refine sr_sub [(1, _, _), (2, _, _), (9, _, _)] (sub_cons rfl (sub_cons rfl (sub_cons rfl (sub_nil _)))) ?_
  refine sr_nil (hK3 _ _ ?_)
  refine sc_false (ev_t rfl) ?_
  refine sc_skip (hK2 _ _ ?_)
  refine sc_sub [(1, _, _), (2, _, _)] (sub_cons rfl (sub_cons rfl (sub_nil _))) ?_
  refine sc_seq fun K4 hK4 => ?_
  refine sc_seq fun K5 hK5 => ?_
  refine sc_text [0, 1, 3] ?_
  refine sr_rd rfl (rd_loads agg_api_Node (ev_t rfl) rfl (fun _ => B1.row)) ?_
  refine sr_pure rfl (rc_call go_r03_Count ev_f (args_cons (ev_t rfl) (args_nil)) rfl) (rcount_ok t _ _ _ (hk0.grow g) (by omega)) (fun w11 g11 => ?_)
  have g := g.trans (g11)
  replace B1 := B1.grow (g11)
  try have hk14 := hk14.grow (g11)
  refine sr_pu rfl (fun _ => rd_gt (ev_t rfl) ev_c) ?_
  refine sr_sub [(1, _, _), (2, _, _), (12, _, _)] (sub_cons rfl (sub_cons rfl (sub_cons rfl (sub_nil _)))) ?_
  refine sr_nil (hK5 _ _ ?_)
  refine sc_cond (ev_t rfl) (fun h2 => ?_) (fun h2 => ?_)
  · (try simp only [bsimp] at h2)
    refine sc_seq fun K6 hK6 => ?_
    refine sc_text [3] ?_
    refine sr_pu rfl (fun _ => rd_assign ev_c) ?_
    refine sr_sub [(1, _, _), (2, _, _)] (sub_cons rfl (sub_cons rfl (sub_nil _))) ?_
    refine sr_nil (hK6 _ _ ?_)
    refine sc_ret (t_ret1 rfl rfl ?_)
    exact ⟨rfl, g⟩
  · have hc1 : count t ≤ 250 := by simp only [decide_eq_false_iff_not] at h2; omega
    refine sc_skip (hK4 _ _ ?_)
    refine sc_sub [(1, _, _), (2, _, _)] (sub_cons rfl (sub_cons rfl (sub_nil _))) ?_
    refine sc_seq fun K7 hK7 => ?_
    refine sc_text [0, 1, 1, 2] ?_
    refine sr_rd rfl (rd_loads agg_api_Node (ev_t rfl) rfl (fun _ => B1.row)) ?_
    refine sr_call rfl (rc_call go_fold_File ev_f (args_cons (ev_t rfl) (args_nil)) rfl) (ffile_ok t _ _ _ (hL.grow g) (by have := g.size; omega) (hk0.grow g) (by omega)) ?_
    rintro v14 w14 ⟨⟨p14, c14, rfl, hk14⟩, g14⟩
    refine ⟨fun _ => g14, ?_⟩
    have g := g.trans g14
    have hk14 := hk14.lt
    replace B1 := B1.grow (g14)
    try have hk14 := hk14.grow (g14)
    refine sr_alloc rfl ze_api_Node rfl ?_
    intro b3 w3 N3
    have x3_1 := N3.ne B1
    have l3 := N3.ge g
    have g := g.trans (N3.g)
    replace B1 := B1.grow (N3.g)
    try have hk14 := hk14.grow (N3.g)
    have B3 := N3.blk
    refine sr_store_all rfl sz_api_Node (ev_t rfl) (ev_t rfl) rfl rfl B3 rfl rfl ?_
    intro wS1 hgS1 hzS1
    clear B3
    intro B3
    replace B1 := B1.keep hgS1 (by intro h; injection h with h; omega)
    have g := g_only g hgS1 (by intro k hk; injection hk with hk; omega)
    have hk14 := hk14.keep hgS1 (fun b hb _ he => by injection he with he; have hb := hb.2; have := N3.at_; omega)
    refine sr_sub [(1, _, _), (2, _, _), (3, _, _)] (sub_cons rfl (sub_cons rfl (sub_cons rfl (sub_nil _)))) ?_
    refine sr_nil (hK7 _ _ ?_)
    refine sc_seq fun K8 hK8 => ?_
    refine sc_seq fun K9 hK9 => ?_
    refine sc_text [0, 1, 3] ?_
    refine sr_rd rfl (rd_loads agg_api_Node (ev_t rfl) rfl (fun _ => B1.row)) ?_
    refine sr_pure rfl (rc_call go_r03_Valid ev_f (args_cons (ev_t rfl) (args_nil)) rfl) (rvalid03_ok t _ D _ (hk0.grow g) (by omega)) (fun w16 g16 => ?_)
    have g := g.trans (g16)
    replace B1 := B1.grow (g16)
    replace B3 := B3.grow (g16)
    try have hk14 := hk14.grow (g16)
    refine sr_pu rfl (fun _ => rd_not (ev_t rfl)) ?_
    refine sr_sub [(1, _, _), (2, _, _), (3, _, _), (17, _, _)] (sub_cons rfl (sub_cons rfl (sub_cons rfl (sub_cons rfl (sub_nil _))))) ?_
    refine sr_nil (hK9 _ _ ?_)
    refine sc_cond (ev_t rfl) (fun h3 => ?_) (fun h3 => ?_)
    · have hvf : validB t = false := by simpa using h3
      have hfe : fileT t = nd0 := by rw [fileT, hvf]; rfl
      refine sc_seq fun K10 hK10 => ?_
      refine sc_text [0, 3, 1, 3] ?_
      refine sr_rd rfl (rd_loads agg_api_Node (ev_t rfl) rfl (fun _ => B3.row)) ?_
      refine sr_pu rfl (fun _ => rd_build [_, _, _, _, _, _, _, _, _] ze_api_Node rfl pl_api_Node (parts_nil) rfl) ?_
      refine sr_pure rfl (rc_call go_r03_Same ev_f (args_cons (ev_t rfl) (args_cons (ev_t rfl) (args_nil))) rfl) (rsame_ok (fileT t) _ _ nd0 _ (fun _ => False) _ hk14 (kd_nil _ _) (by rw [hfe]; decide +kernel)) (fun w20 g20 => ?_)
      have g := g.trans (g20)
      replace B1 := B1.grow (g20)
      replace B3 := B3.grow (g20)
      try have hk14 := hk14.grow (g20)
      refine sr_pu rfl (fun _ => rd_assign (ev_t rfl)) ?_
      refine sr_sub [(1, _, _), (2, _, _), (3, _, _)] (sub_cons rfl (sub_cons rfl (sub_cons rfl (sub_nil _)))) ?_
      refine sr_nil (hK10 _ _ ?_)
      refine sc_ret (t_ret1 rfl rfl ?_)
      refine ⟨congrArg Value.bool ?_, g⟩
      rw [hfe]; exact smB_refl nd0
    · have hvv : validB t = true := by simpa using h3
      have hp := validB_perm hvv
      have hfc := fileT_count hvv hok
      have hfe : fileT t = foldT t := by rw [fileT, hvv]; rfl
      have hvv2 : validB (fileT t) = true := by rw [hfe]; exact valid_fold hvv hok
      have hag : fileT (fileT t) = fileT t := by rw [fileT, hvv2, cond_true, hfe]; exact fold_again t hp hok
      refine sc_skip (hK8 _ _ ?_)
      refine sc_sub [(1, _, _), (2, _, _), (3, _, _)] (sub_cons rfl (sub_cons rfl (sub_cons rfl (sub_nil _)))) ?_
      refine sc_seq fun K11 hK11 => ?_
      refine sc_seq fun K12 hK12 => ?_
      skip
      refine sc_draw [0, 1, 3, 3, 0, 1, 0, 1, 3, 3, 3, 0, 1, 0, 1, 3, 3] [true, true, true, true, true, true, false, true, true, true, true, true, true, false, true, true, true] [0, 1, 3, 7, 15, 31, 15, 127, 255, 511, 1023, 2047, 4095, 2047, 16383, 32767, 65535] mix (by kernel_rfl) ?_
      have g := g.trans (G.drew _)
      replace B1 := B1.grow (G.drew _)
      replace B3 := B3.grow (G.drew _)
      try have hk14 := hk14.grow (G.drew _)
      have C1 := B1
      have C3 := B3
      refine sr_rd rfl (rd_loads agg_api_Node (ev_t rfl) rfl (fun _ => B3.row)) ?_
      refine sr_pure rfl (rc_call go_r03_Valid ev_f (args_cons (ev_t rfl) (args_nil)) rfl) (rvalid03_ok (fileT t) _ _ _ hk14 (by omega)) (fun w22 g22 => ?_)
      have g := g.trans (g22)
      replace B1 := B1.grow (g22)
      replace B3 := B3.grow (g22)
      try have hk14 := hk14.grow (g22)
      refine sr_pu rfl (fun _ => rd_not (ev_t rfl)) ?_
      refine sr_pu rfl (fun _ => rd_move (ev_t rfl)) ?_
      refine sr_rdg rfl rfl rfl (rd_loads agg_api_Node (ev_t rfl) rfl (fun _ => B3.row)) ?_
      refine sr_pureg rfl rfl rfl (fun _ => (rc_call go_r03_Count ev_f (args_cons (ev_u rfl id) (args_nil)) rfl)) (fun hc => rcount_ok (fileT t) _ _ _ hk14 (by omega)) (fun w26 g26 => ?_)
      have g := g.trans (g26)
      replace B1 := B1.grow (g26)
      replace B3 := B3.grow (g26)
      try have hk14 := hk14.grow (g26)
      refine sr_rdg0 rfl rfl rfl (rd_loads agg_api_Node (ev_t rfl) rfl (fun _ => C1.row)) ?_
      refine sr_pureg rfl rfl rfl (fun _ => (rc_call go_r03_Count ev_f (args_cons (ev_u rfl id) (args_nil)) rfl)) (fun hc => rcount_ok t _ _ _ (hk0.grow g) (by omega)) (fun w28 g28 => ?_)
      have g := g.trans (g28)
      replace B1 := B1.grow (g28)
      replace B3 := B3.grow (g28)
      try have hk14 := hk14.grow (g28)
      refine sr_pug rfl rfl rfl (fun _ => rd_gt (ev_u rfl id) (ev_u rfl id)) ?_
      refine sr_pu rfl (fun _ => rd_pick_or (ev_t rfl) (ev_u rfl id)) ?_
      refine sr_pu rfl (fun _ => rd_move (ev_t rfl)) ?_
      refine sr_rdg rfl rfl rfl (rd_loads agg_api_Node (ev_t rfl) rfl (fun _ => B3.row)) ?_
      refine sr_callq rfl rfl rfl (fun _ => rc_call go_fold_File ev_f (args_cons (ev_u rfl id) (args_nil)) rfl) (fun hc => ffile_ok (fileT t) _ _ _ (hL.grow g) (by have := g.size; omega) hk14 (by omega)) ?_
      intro v33 w33 hv33 g33
      have g := g.trans (g33)
      replace B1 := B1.grow (g33)
      replace B3 := B3.grow (g33)
      try have hk14 := hk14.grow (g33)
      refine sr_rdg0 rfl rfl rfl (rd_loads agg_api_Node (ev_t rfl) rfl (fun _ => C3.row)) ?_
      refine sr_pureg rfl rfl rfl (fun _ => (rc_call go_r03_Same ev_f (args_cons (ev_u rfl id) (args_cons (ev_u rfl id) (args_nil))) rfl)) (fun hc => (show Ret PP _ _ w33 (fun r w' => r = .bool (smB (fileT (fileT t)) (fileT t)) ∧ G w33 w') from by obtain ⟨p, c, e, hk⟩ := hv33 hc; rw [e]; exact rsame_ok _ _ _ _ _ _ _ hk hk14 (by rw [hag]; omega))) (fun w35 g35 => ?_)
      have g := g.trans (g35)
      replace B1 := B1.grow (g35)
      replace B3 := B3.grow (g35)
      try have hk14 := hk14.grow (g35)
      refine sr_pug rfl rfl rfl (fun _ => rd_not (ev_u rfl id)) ?_
      refine sr_pu rfl (fun _ => rd_pick_or (ev_t rfl) (ev_u rfl id)) ?_
      refine sr_sub [(2, _, _), (3, _, _), (37, _, _)] (sub_cons rfl (sub_cons rfl (sub_cons rfl (sub_nil _)))) ?_
      refine sr_nil (hK12 _ _ ?_)
      refine sc_cond (ev_t rfl) (fun h4 => ?_) (fun h4 => ?_)
      · exfalso
        rw [hvv2, hag, smB_refl] at h4
        simp at h4; omega
        done
      · (try simp only [bsimp] at h4)
        refine sc_skip (hK11 _ _ ?_)
        refine sc_sub [(2, _, _), (3, _, _)] (sub_cons rfl (sub_cons rfl (sub_nil _))) ?_
        refine sc_seq fun K13 hK13 => ?_
        refine sc_text [0, 1, 3] ?_
        refine sr_rd rfl (rd_loads agg_api_Node (ev_t rfl) rfl (fun _ => B3.row)) ?_
        refine sr_call rfl (rc_call go_r03_List ev_f (args_cons (ev_t rfl) (args_nil)) rfl) (rlist_ok (fileT t) _ _ _ hk14 (by omega)) ?_
        rintro v39 w39 ⟨hl, g39⟩
        obtain ⟨pl, cl, rfl, hcl, hrl⟩ := hl
        refine ⟨fun _ => g39, ?_⟩
        have g := g.trans g39
        have hll := listN_length (fileT t)
        replace B1 := B1.grow (g39)
        replace B3 := B3.grow (g39)
        try have hk14 := hk14.grow (g39)
        have gm := G.refl w39
        refine sr_pu rfl (fun _ => rd_assign (ev_t rfl)) ?_
        refine sr_sub [(2, _, _), (4, _, _)] (sub_cons rfl (sub_cons rfl (sub_nil _))) ?_
        refine sr_nil (hK13 _ _ ?_)
        refine sc_seq fun K14 hK14 => ?_
        refine sc_seq fun K15 hK15 => ?_
        refine sc_text [3] ?_
        refine sr_pu rfl (fun _ => rd_assign ev_c) ?_
        refine sr_nil (hK15 _ _ ?_)
        refine sc_block ?_
        refine sc_loop2 (fun (i : Nat) u1 => (i ≤ (listN (fileT t)).length) ∧ G w39 u1) [(4, True, _)] (fun (i : Nat) => [(5, True, .int .i64 i)]) (fun (i : Nat) => (listN (fileT t)).length - i) (0) ⟨by simp, G.refl _⟩ (sub_cons rfl (sub_cons rfl (sub_nil _))) ?_
        rintro i u1 ⟨hI1, gl1⟩
        have g := g.trans gl1
        have gm := gm.trans gl1
        replace B1 := B1.grow (gl1)
        replace B3 := B3.grow (gl1)
        refine sc_seq fun K16 hK16 => ?_
        refine sc_seq fun K17 hK17 => ?_
        refine sc_text [3, 3, 3, 3] ?_
        refine sr_pu rfl (fun _ => rd_move (ev_t rfl)) ?_
        refine sr_pu rfl (fun _ => rd_move (ev_t rfl)) ?_
        refine sr_pu rfl (fun _ => rd_len el_sl_api_Node (ev_t rfl)) ?_
        refine sr_pu rfl (fun _ => rd_lt (ev_t rfl) (ev_t rfl)) ?_
        refine sr_sub [(4, _, _), (5, _, _), (43, _, _)] (sub_cons rfl (sub_cons rfl (sub_cons rfl (sub_nil _)))) ?_
        refine sr_nil (hK17 _ _ ?_)
        refine sc_cond (ev_t rfl) (fun h5 => ?_) (fun h5 => ?_)
        · replace h5 : i < (listN (fileT t)).length := by simp only [decide_eq_true_eq] at h5; omega
          obtain ⟨b, o, rfl, hD, xs, hR, hX⟩ := hrl (by omega)
          obtain ⟨p', c', hcell, hkid⟩ := kd_at hR hX h5
          have hfact := list_fold t hp hok _ (by rw [← hfe]; exact List.getElem_mem h5)
          have hpx := perm_list _ _ (validB_perm hvv2) (List.getElem_mem h5)
          refine sc_skip (hK16 _ _ ?_)
          refine sc_sub [(4, _, _), (5, _, _)] (sub_cons rfl (sub_cons rfl (sub_nil _))) ?_
          refine sc_seq fun K18 hK18 => ?_
          refine sc_block ?_
          refine sc_seq fun K19 hK19 => ?_
          refine sc_text [3, 3, 3, 3, 0, 3] ?_
          refine sr_pu rfl (fun _ => rd_move (ev_t rfl)) ?_
          refine sr_pu rfl (fun _ => rd_move (ev_t rfl)) ?_
          refine sr_pu rfl (fun _ => rd_idx el_sl_api_Node (ev_t rfl) (ev_t rfl) (fun _ => by omega)) ?_
          refine sr_pu rfl (fun _ => rd_field fo_api_Node_0 (ev_t rfl)) ?_
          refine sr_rd rfl (rd_load one_int (ev_t rfl) (fun _ => (hcell.grow gm) 0 _ rfl)) ?_
          refine sr_pu rfl (fun _ => rd_eq (ev_t rfl) ev_c) ?_
          refine sr_sub [(4, _, _), (5, _, _), (51, _, _)] (sub_cons rfl (sub_cons rfl (sub_cons rfl (sub_nil _)))) ?_
          refine sr_nil (hK19 _ _ ?_)
          refine sc_cond (ev_t rfl) (fun h6 => ?_) (fun h6 => ?_)
          · have h18 : (listN (fileT t))[i].kind = 18 := by simpa using h6
            have hl3 := perm_18 h18 hpx
            obtain ⟨ex, px, cx, hcx, hkx⟩ := kd_opt hkid (i := 0) (by omega)
            have hno := valO_no (hfact.1 h18)
            refine sc_seq fun K20 hK20 => ?_
            refine sc_text [3, 3, 3, 3, 0, 3, 0, 1, 3, 3, 3, 3, 3] ?_
            refine sr_pu rfl (fun _ => rd_move (ev_t rfl)) ?_
            refine sr_pu rfl (fun _ => rd_move (ev_t rfl)) ?_
            refine sr_pu rfl (fun _ => rd_idx el_sl_api_Node (ev_t rfl) (ev_t rfl) (fun _ => by omega)) ?_
            refine sr_pu rfl (fun _ => rd_field fo_api_Node_4 (ev_t rfl)) ?_
            refine sr_rd rfl (rd_load one_sl_api_Node (ev_t rfl) (fun _ => (hcell.grow gm) 4 _ rfl)) ?_
            refine sr_pu rfl (fun _ => rd_idxq el_sl_api_Node (ev_t rfl) ev_c (fun _ => by omega) (fun _ => ex)) ?_
            refine sr_rd rfl (rd_loads agg_api_Node (ev_t rfl) rfl (fun _ => hcx.grow gm)) ?_
            refine sr_pure rfl (rc_call go_fold_Value ev_f (args_cons (ev_t rfl) (args_nil)) rfl) (fValue_ok _ _ _ _ (hkx.grow gm)) (fun w60 g60 => ?_)
            have g := g.trans (g60)
            try have gm := gm.trans (g60)
            try have gl1 := gl1.trans (g60)
            replace B1 := B1.grow (g60)
            replace B3 := B3.grow (g60)
            try have hk14 := hk14.grow (g60)
            refine sr_pu rfl (fun _ => rd_move (ev_t rfl)) ?_
            refine sr_pu rfl (fun _ => rd_extract (ev_t rfl) rfl) ?_
            refine sr_pu rfl (fun _ => rd_extract (ev_t rfl) rfl) ?_
            refine sr_pu rfl (fun _ => rd_assign (ev_t rfl)) ?_
            refine sr_pu rfl (fun _ => rd_assign (ev_t rfl)) ?_
            refine sr_sub [(4, _, _), (5, _, _), (7, _, _)] (sub_cons rfl (sub_cons rfl (sub_cons rfl (sub_nil _)))) ?_
            refine sr_nil (hK20 _ _ ?_)
            refine sc_seq fun K21 hK21 => ?_
            refine sc_text [3] ?_
            refine sr_pu rfl (fun _ => rd_move (ev_t rfl)) ?_
            refine sr_sub [(4, _, _), (5, _, _), (63, _, _)] (sub_cons rfl (sub_cons rfl (sub_cons rfl (sub_nil _)))) ?_
            refine sr_nil (hK21 _ _ ?_)
            refine sc_cond (ev_t rfl) (fun h7 => ?_) (fun h7 => ?_)
            · exfalso; rw [hno] at h7; cases h7
              done
            · (try simp only [bsimp] at h7)
              refine sc_skip (hK18 _ _ ?_)
              refine sc_sub [(4, _, _), (5, _, _)] (sub_cons rfl (sub_cons rfl (sub_nil _))) ?_
              refine sc_text [3, 3, 3] ?_
              refine sr_pu rfl (fun _ => rd_move (ev_t rfl)) ?_
              refine sr_pu rfl (fun _ => rd_add (ev_t rfl) ev_c (fun _ => by omega)) ?_
              refine sr_pu rfl (fun _ => rd_assign (ev_t rfl)) ?_
              refine sr_sub [(5, _, _), (4, _, _)] (sub_cons rfl (sub_cons rfl (sub_nil _))) ?_
              refine sr_nil (fun a ha => ?_)
              exact ⟨i + 1, ha, ⟨h5, gl1⟩, by omega⟩
          · (try simp only [bsimp] at h6)
            refine sc_skip (hK18 _ _ ?_)
            refine sc_sub [(4, _, _), (5, _, _)] (sub_cons rfl (sub_cons rfl (sub_nil _))) ?_
            refine sc_text [3, 3, 3] ?_
            refine sr_pu rfl (fun _ => rd_move (ev_t rfl)) ?_
            refine sr_pu rfl (fun _ => rd_add (ev_t rfl) ev_c (fun _ => by omega)) ?_
            refine sr_pu rfl (fun _ => rd_assign (ev_t rfl)) ?_
            refine sr_sub [(5, _, _), (4, _, _)] (sub_cons rfl (sub_cons rfl (sub_nil _))) ?_
            refine sr_nil (fun a ha => ?_)
            exact ⟨i + 1, ha, ⟨h5, gl1⟩, by omega⟩
        · (try simp only [bsimp] at h5)
          refine sc_exit rfl (hK14 _ _ ?_)
          refine sc_sub [] (sub_nil _) ?_
          refine sc_seq fun K22 hK22 => ?_
          refine sc_text [3] ?_
          refine sr_pu rfl (fun _ => rd_assign ev_c) ?_
          refine sr_nil (hK22 _ _ ?_)
          refine sc_ret (t_ret1 rfl rfl ?_)
          exact ⟨rfl, g⟩
end Go.Rk
