/- The types on trees: the reference; the laws. Conditions: what start-up laid. -/
import Derived.Test.YtbefeanapficgaaDoorTypG
import Derived.Test.YtbefeanapficgaaDoorTypL
namespace Go.Rk
open Go Go.RowKit
theorem of_none {t : Nd} (h : ((decide (t.kind = 9) && decide (t.text = [])) && leafB t) = true) : ofF t = (ty0, true) := by
  simp only [Bool.and_eq_true] at h
  unfold ofF
  rw [h.2, h.1.1, h.1.2]; rfl
theorem of_not {t : Nd} (h : ((decide (t.kind = 9) && decide (t.text = [])) && leafB t) = false) (h2 : isTypeB t = false) : ofF t = (ty0, false) := by
  unfold ofF
  unfold isTypeB at h2
  cases h3 : leafB t
  · rfl
  · rw [h3, Bool.and_true] at h
    simp only [Bool.not_true, cond_false]
    cases h4 : decide (t.kind = 9)
    · simp only [cond_false]
      cases h5 : decide (t.kind = 8)
      · simp only [cond_false]
        cases h6 : decide (t.kind = 7)
        · rfl
        · rw [h5, h6, h3] at h2
          simp only [cond_true, cond_false, Bool.and_true] at h2
          rw [h2]; rfl
      · rw [h5, h3, Bool.and_true] at h2
        simp only [cond_true] at h2
        rw [h2]; rfl
    · rw [h4, Bool.true_and] at h
      rw [h]; rfl
theorem of_ptr {t : Nd} (h2 : isTypeB t = true) (h3 : decide (t.kind = 8) = true) : ofF t = (⟨4, t.text⟩, true) := by
  unfold isTypeB at h2
  rw [h3, cond_true, Bool.and_eq_true] at h2
  have hk := of_decide_eq_true h3
  unfold ofF
  rw [h2.2, h3, h2.1, decide_eq_false (by omega : ¬ t.kind = 9)]; rfl
theorem of_typ {t : Nd} (h2 : isTypeB t = true) (h3 : decide (t.kind = 8) = false) : ofF t = (⟨typKind t.text, []⟩, true) ∧ typeNameB t.text = true := by
  unfold isTypeB at h2
  rw [h3, cond_false] at h2
  cases h4 : decide (t.kind = 7)
  · rw [h4] at h2; cases h2
  · rw [h4, cond_true, Bool.and_eq_true] at h2
    have hk := of_decide_eq_true h4
    unfold ofF
    rw [h2.2, h3, h4, h2.1, decide_eq_false (by omega : ¬ t.kind = 9)]
    exact ⟨rfl, rfl⟩
theorem rof_ok (t : Nd) (p : Option Addr) (c : Nat) (w : World) : Ret PP fn_r05_Of #[ndV t (.slice p t.kids.length c)] w fun v w' => v = .tuple #[tyV (ofF t).1, .bool (ofF t).2] ∧ G w w' := by
  have g := G.refl w
  refine ret_of_sc (m := 59) func_r05_Of rfl rfl [(0, True, _)] (sub_cons rfl (sub_nil _)) ?_
  refine sc_seq fun K1 hK1 => ?_
  refine sc_text [1, 1, 3] ?_
  refine sr_box rfl (ev_t rfl) rfl ?_
  intro b1 w1 N1
  have l1 := N1.ge g
  have g := g.trans (N1.g)
  have B1 := N1.blk
  refine sr_alloc rfl ze_api_Type rfl ?_
  intro b2 w2 N2
  have x2_1 := N2.ne B1
  have l2 := N2.ge g
  have g := g.trans (N2.g)
  replace B1 := B1.grow (N2.g)
  have B2 := N2.blk
  refine sr_pu rfl (fun _ => rd_assign ev_c) ?_
  refine sr_sub [(1, _, _), (2, _, _), (3, _, _)] (sub_cons rfl (sub_cons rfl (sub_cons rfl (sub_nil _)))) ?_
  refine sr_nil (hK1 _ _ ?_)
  refine sc_seq fun K2 hK2 => ?_
  refine sc_seq fun K3 hK3 => ?_
  refine sc_text [3, 0, 3, 3, 3, 0, 3, 3, 3, 3, 0, 3, 3, 3] ?_
  refine sr_pu rfl (fun _ => rd_field fo_api_Node_0 (ev_t rfl)) ?_
  refine sr_rd rfl (rd_load one_int (ev_t rfl) (fun _ => B1.at_ rfl)) ?_
  refine sr_pu rfl (fun _ => rd_eq (ev_t rfl) ev_c) ?_
  refine sr_pu rfl (fun _ => rd_move (ev_t rfl)) ?_
  refine sr_pug rfl rfl rfl (fun _ => rd_field fo_api_Node_1 (ev_t rfl)) ?_
  refine sr_rdg rfl rfl rfl (rd_load one_string (ev_u rfl id) (fun _ => B1.at_ rfl)) ?_
  refine sr_pug rfl rfl rfl (fun _ => rd_seq (ev_u rfl id) ev_c) ?_
  refine sr_pu rfl (fun _ => rd_pick_and (ev_t rfl) (ev_u rfl id)) ?_
  refine sr_pu rfl (fun _ => rd_move (ev_t rfl)) ?_
  refine sr_pug rfl rfl rfl (fun _ => rd_field fo_api_Node_4 (ev_t rfl)) ?_
  refine sr_rdg rfl rfl rfl (rd_load one_sl_api_Node (ev_u rfl id) (fun _ => B1.at_ rfl)) ?_
  refine sr_pug rfl rfl rfl (fun _ => rd_len el_sl_api_Node (ev_u rfl id)) ?_
  refine sr_pug rfl rfl rfl (fun _ => rd_eq (ev_u rfl id) ev_c) ?_
  refine sr_pu rfl (fun _ => rd_pick_and (ev_t rfl) (ev_u rfl id)) ?_
  refine sr_sub [(1, _, _), (2, _, _), (3, _, _), (17, _, _)] (sub_cons rfl (sub_cons rfl (sub_cons rfl (sub_cons rfl (sub_nil _))))) ?_
  refine sr_nil (hK3 _ _ ?_)
  refine sc_cond (ev_t rfl) (fun h1 => ?_) (fun h1 => ?_)
  · replace h1 : ((decide (t.kind = 9) && decide (t.text = [])) && leafB t) = true := h1
    refine sc_seq fun K4 hK4 => ?_
    refine sc_text [3, 2, 3] ?_
    refine sr_pu rfl (fun _ => rd_build [_, _] ze_api_Type rfl pl_api_Type (parts_nil) rfl) ?_
    refine sr_store_all rfl sz_api_Type (ev_t rfl) (ev_t rfl) rfl rfl B2 rfl rfl ?_
    intro wS1 hgS1 hzS1
    clear B2
    intro B2
    replace B1 := B1.keep hgS1 (by intro h; injection h with h; omega)
    have g := g_only g hgS1 (by intro k hk; injection hk with hk; omega)
    refine sr_pu rfl (fun _ => rd_assign ev_c) ?_
    refine sr_sub [(1, _, _), (2, _, _), (3, _, _)] (sub_cons rfl (sub_cons rfl (sub_cons rfl (sub_nil _)))) ?_
    refine sr_nil (hK4 _ _ ?_)
    refine sc_ret (t_retv (rs := [.cell 2 23, .tmp 3]) (vs := [_, _]) rfl rfl (evr_c rfl agg_api_Type rfl (by first | exact B1.row | exact B2.row) (evr_t rfl (evr_nil))) rfl ?_)
    rw [of_none h1]; exact ⟨rfl, g⟩
  · replace h1 : ((decide (t.kind = 9) && decide (t.text = [])) && leafB t) = false := h1
    refine sc_skip (hK2 _ _ ?_)
    refine sc_sub [(1, _, _), (2, _, _), (3, _, _)] (sub_cons rfl (sub_cons rfl (sub_cons rfl (sub_nil _)))) ?_
    refine sc_seq fun K5 hK5 => ?_
    refine sc_seq fun K6 hK6 => ?_
    refine sc_text [0, 1, 3] ?_
    refine sr_rd rfl (rd_loads agg_api_Node (ev_t rfl) rfl (fun _ => B1.row)) ?_
    refine sr_pure rfl (rc_call go_r03_IsType ev_f (args_cons (ev_t rfl) (args_nil)) rfl) (istype_ok _ _ _ _) (fun w20 g20 => ?_)
    have g := g.trans (g20)
    replace B1 := B1.grow (g20)
    replace B2 := B2.grow (g20)
    refine sr_pu rfl (fun _ => rd_not (ev_t rfl)) ?_
    refine sr_sub [(1, _, _), (2, _, _), (3, _, _), (21, _, _)] (sub_cons rfl (sub_cons rfl (sub_cons rfl (sub_cons rfl (sub_nil _))))) ?_
    refine sr_nil (hK6 _ _ ?_)
    refine sc_cond (ev_t rfl) (fun h2 => ?_) (fun h2 => ?_)
    · (try simp only [bsimp] at h2)
      refine sc_seq fun K7 hK7 => ?_
      refine sc_text [3, 2, 3] ?_
      refine sr_pu rfl (fun _ => rd_build [_, _] ze_api_Type rfl pl_api_Type (parts_nil) rfl) ?_
      refine sr_store_all rfl sz_api_Type (ev_t rfl) (ev_t rfl) rfl rfl B2 rfl rfl ?_
      intro wS2 hgS2 hzS2
      clear B2
      intro B2
      replace B1 := B1.keep hgS2 (by intro h; injection h with h; omega)
      have g := g_only g hgS2 (by intro k hk; injection hk with hk; omega)
      refine sr_pu rfl (fun _ => rd_assign ev_c) ?_
      refine sr_sub [(1, _, _), (2, _, _), (3, _, _)] (sub_cons rfl (sub_cons rfl (sub_cons rfl (sub_nil _)))) ?_
      refine sr_nil (hK7 _ _ ?_)
      refine sc_ret (t_retv (rs := [.cell 2 23, .tmp 3]) (vs := [_, _]) rfl rfl (evr_c rfl agg_api_Type rfl (by first | exact B1.row | exact B2.row) (evr_t rfl (evr_nil))) rfl ?_)
      rw [of_not h1 (by simpa using h2)]; exact ⟨rfl, g⟩
    · have hty : isTypeB t = true := by simpa using h2
      refine sc_skip (hK5 _ _ ?_)
      refine sc_sub [(1, _, _), (2, _, _), (3, _, _)] (sub_cons rfl (sub_cons rfl (sub_cons rfl (sub_nil _)))) ?_
      refine sc_seq fun K8 hK8 => ?_
      refine sc_seq fun K9 hK9 => ?_
      refine sc_text [3, 0, 3] ?_
      refine sr_pu rfl (fun _ => rd_field fo_api_Node_0 (ev_t rfl)) ?_
      refine sr_rd rfl (rd_load one_int (ev_t rfl) (fun _ => B1.at_ rfl)) ?_
      refine sr_pu rfl (fun _ => rd_eq (ev_t rfl) ev_c) ?_
      refine sr_sub [(1, _, _), (2, _, _), (3, _, _), (25, _, _)] (sub_cons rfl (sub_cons rfl (sub_cons rfl (sub_cons rfl (sub_nil _))))) ?_
      refine sr_nil (hK9 _ _ ?_)
      refine sc_cond (ev_t rfl) (fun h3 => ?_) (fun h3 => ?_)
      · (try simp only [bsimp] at h3)
        refine sc_seq fun K10 hK10 => ?_
        refine sc_text [3, 0, 3, 2, 3] ?_
        refine sr_pu rfl (fun _ => rd_field fo_api_Node_1 (ev_t rfl)) ?_
        refine sr_rd rfl (rd_load one_string (ev_t rfl) (fun _ => B1.at_ rfl)) ?_
        refine sr_pu rfl (fun _ => rd_build [_, _] ze_api_Type rfl pl_api_Type (parts_cons ev_c (parts_cons (ev_t rfl) (parts_nil))) rfl) ?_
        refine sr_store_all rfl sz_api_Type (ev_t rfl) (ev_t rfl) rfl rfl B2 rfl rfl ?_
        intro wS3 hgS3 hzS3
        clear B2
        intro B2
        replace B1 := B1.keep hgS3 (by intro h; injection h with h; omega)
        have g := g_only g hgS3 (by intro k hk; injection hk with hk; omega)
        refine sr_pu rfl (fun _ => rd_assign ev_c) ?_
        refine sr_sub [(1, _, _), (2, _, _), (3, _, _)] (sub_cons rfl (sub_cons rfl (sub_cons rfl (sub_nil _)))) ?_
        refine sr_nil (hK10 _ _ ?_)
        refine sc_ret (t_retv (rs := [.cell 2 23, .tmp 3]) (vs := [_, _]) rfl rfl (evr_c rfl agg_api_Type rfl (by first | exact B1.row | exact B2.row) (evr_t rfl (evr_nil))) rfl ?_)
        rw [of_ptr hty h3]; exact ⟨rfl, g⟩
      · (try simp only [bsimp] at h3)
        refine sc_skip (hK8 _ _ ?_)
        refine sc_sub [(1, _, _), (2, _, _), (3, _, _)] (sub_cons rfl (sub_cons rfl (sub_cons rfl (sub_nil _)))) ?_
        refine sc_seq fun K11 hK11 => ?_
        refine sc_seq fun K12 hK12 => ?_
        refine sc_text [3, 0] ?_
        refine sr_pu rfl (fun _ => rd_field fo_api_Node_1 (ev_t rfl)) ?_
        refine sr_rd rfl (rd_load one_string (ev_t rfl) (fun _ => B1.at_ rfl)) ?_
        refine sr_sub [(2, _, _), (3, _, _), (30, _, _)] (sub_cons rfl (sub_cons rfl (sub_cons rfl (sub_nil _)))) ?_
        refine sr_nil (hK12 _ _ ?_)
        refine sc_block ?_
        refine sc_seq fun K13 hK13 => ?_
        refine sc_text [3, 3] ?_
        refine sr_pu rfl (fun _ => rd_seq (ev_t rfl) ev_c) ?_
        refine sr_pu rfl (fun _ => rd_assign (ev_t rfl)) ?_
        refine sr_sub [(2, _, _), (3, _, _), (30, _, _), (31, _, _)] (sub_cons rfl (sub_cons rfl (sub_cons rfl (sub_cons rfl (sub_nil _))))) ?_
        refine sr_nil (hK13 _ _ ?_)
        refine sc_cond (ev_t rfl) (fun h4 => ?_) (fun h4 => ?_)
        · (try simp only [bsimp] at h4)
          refine sc_seq fun K14 hK14 => ?_
          refine sc_text [3, 2, 3] ?_
          refine sr_pu rfl (fun _ => rd_build [_, _] ze_api_Type rfl pl_api_Type (parts_cons ev_c (parts_nil)) rfl) ?_
          refine sr_store_all rfl sz_api_Type (ev_t rfl) (ev_t rfl) rfl rfl B2 rfl rfl ?_
          intro wS4 hgS4 hzS4
          clear B2
          intro B2
          replace B1 := B1.keep hgS4 (by intro h; injection h with h; omega)
          have g := g_only g hgS4 (by intro k hk; injection hk with hk; omega)
          refine sr_pu rfl (fun _ => rd_assign ev_c) ?_
          refine sr_sub [(2, _, _), (3, _, _)] (sub_cons rfl (sub_cons rfl (sub_nil _))) ?_
          refine sr_nil (hK14 _ _ ?_)
          refine sc_ret (t_retv (rs := [.cell 2 23, .tmp 3]) (vs := [_, _]) rfl rfl (evr_c rfl agg_api_Type rfl (by first | exact B1.row | exact B2.row) (evr_t rfl (evr_nil))) rfl ?_)
          obtain ⟨e, hn⟩ := of_typ hty h3
          rw [e]
          have hx := h4
          refine ⟨?_, g⟩
          first
          | (have e2 := of_decide_eq_true hx; rw [e2]; rfl)
          | (have hm := (anyS_iff _ _).1 hn
             simp only [typeNames, List.mem_cons, List.not_mem_nil, or_false] at hm
             simp only [decide_eq_false_iff_not] at h4 h5 h6 h7 h8 h9 h10 h11 h12
             have e2 : t.text = [97, 116, 111, 109, 105, 99] := by simpa only [h4, h5, h6, h7, h8, h9, h10, h11, h12, false_or] using hm
             rw [e2]; rfl)
        · (try simp only [bsimp] at h4)
          refine sc_seq fun K15 hK15 => ?_
          refine sc_text [3, 3] ?_
          refine sr_pu rfl (fun _ => rd_seq (ev_t rfl) ev_c) ?_
          refine sr_pu rfl (fun _ => rd_assign (ev_t rfl)) ?_
          refine sr_sub [(2, _, _), (3, _, _), (30, _, _), (34, _, _)] (sub_cons rfl (sub_cons rfl (sub_cons rfl (sub_cons rfl (sub_nil _))))) ?_
          refine sr_nil (hK15 _ _ ?_)
          refine sc_cond (ev_t rfl) (fun h5 => ?_) (fun h5 => ?_)
          · (try simp only [bsimp] at h5)
            refine sc_seq fun K16 hK16 => ?_
            refine sc_text [3, 2, 3] ?_
            refine sr_pu rfl (fun _ => rd_build [_, _] ze_api_Type rfl pl_api_Type (parts_cons ev_c (parts_nil)) rfl) ?_
            refine sr_store_all rfl sz_api_Type (ev_t rfl) (ev_t rfl) rfl rfl B2 rfl rfl ?_
            intro wS5 hgS5 hzS5
            clear B2
            intro B2
            replace B1 := B1.keep hgS5 (by intro h; injection h with h; omega)
            have g := g_only g hgS5 (by intro k hk; injection hk with hk; omega)
            refine sr_pu rfl (fun _ => rd_assign ev_c) ?_
            refine sr_sub [(2, _, _), (3, _, _)] (sub_cons rfl (sub_cons rfl (sub_nil _))) ?_
            refine sr_nil (hK16 _ _ ?_)
            refine sc_ret (t_retv (rs := [.cell 2 23, .tmp 3]) (vs := [_, _]) rfl rfl (evr_c rfl agg_api_Type rfl (by first | exact B1.row | exact B2.row) (evr_t rfl (evr_nil))) rfl ?_)
            obtain ⟨e, hn⟩ := of_typ hty h3
            rw [e]
            have hx := h5
            refine ⟨?_, g⟩
            first
            | (have e2 := of_decide_eq_true hx; rw [e2]; rfl)
            | (have hm := (anyS_iff _ _).1 hn
               simp only [typeNames, List.mem_cons, List.not_mem_nil, or_false] at hm
               simp only [decide_eq_false_iff_not] at h4 h5 h6 h7 h8 h9 h10 h11 h12
               have e2 : t.text = [97, 116, 111, 109, 105, 99] := by simpa only [h4, h5, h6, h7, h8, h9, h10, h11, h12, false_or] using hm
               rw [e2]; rfl)
          · (try simp only [bsimp] at h5)
            refine sc_seq fun K17 hK17 => ?_
            refine sc_text [3, 3] ?_
            refine sr_pu rfl (fun _ => rd_seq (ev_t rfl) ev_c) ?_
            refine sr_pu rfl (fun _ => rd_assign (ev_t rfl)) ?_
            refine sr_sub [(2, _, _), (3, _, _), (30, _, _), (37, _, _)] (sub_cons rfl (sub_cons rfl (sub_cons rfl (sub_cons rfl (sub_nil _))))) ?_
            refine sr_nil (hK17 _ _ ?_)
            refine sc_cond (ev_t rfl) (fun h6 => ?_) (fun h6 => ?_)
            · (try simp only [bsimp] at h6)
              refine sc_seq fun K18 hK18 => ?_
              refine sc_text [3, 2, 3] ?_
              refine sr_pu rfl (fun _ => rd_build [_, _] ze_api_Type rfl pl_api_Type (parts_cons ev_c (parts_nil)) rfl) ?_
              refine sr_store_all rfl sz_api_Type (ev_t rfl) (ev_t rfl) rfl rfl B2 rfl rfl ?_
              intro wS6 hgS6 hzS6
              clear B2
              intro B2
              replace B1 := B1.keep hgS6 (by intro h; injection h with h; omega)
              have g := g_only g hgS6 (by intro k hk; injection hk with hk; omega)
              refine sr_pu rfl (fun _ => rd_assign ev_c) ?_
              refine sr_sub [(2, _, _), (3, _, _)] (sub_cons rfl (sub_cons rfl (sub_nil _))) ?_
              refine sr_nil (hK18 _ _ ?_)
              refine sc_ret (t_retv (rs := [.cell 2 23, .tmp 3]) (vs := [_, _]) rfl rfl (evr_c rfl agg_api_Type rfl (by first | exact B1.row | exact B2.row) (evr_t rfl (evr_nil))) rfl ?_)
              obtain ⟨e, hn⟩ := of_typ hty h3
              rw [e]
              have hx := h6
              refine ⟨?_, g⟩
              first
              | (have e2 := of_decide_eq_true hx; rw [e2]; rfl)
              | (have hm := (anyS_iff _ _).1 hn
                 simp only [typeNames, List.mem_cons, List.not_mem_nil, or_false] at hm
                 simp only [decide_eq_false_iff_not] at h4 h5 h6 h7 h8 h9 h10 h11 h12
                 have e2 : t.text = [97, 116, 111, 109, 105, 99] := by simpa only [h4, h5, h6, h7, h8, h9, h10, h11, h12, false_or] using hm
                 rw [e2]; rfl)
            · (try simp only [bsimp] at h6)
              refine sc_seq fun K19 hK19 => ?_
              refine sc_text [3, 3] ?_
              refine sr_pu rfl (fun _ => rd_seq (ev_t rfl) ev_c) ?_
              refine sr_pu rfl (fun _ => rd_assign (ev_t rfl)) ?_
              refine sr_sub [(2, _, _), (3, _, _), (30, _, _), (40, _, _)] (sub_cons rfl (sub_cons rfl (sub_cons rfl (sub_cons rfl (sub_nil _))))) ?_
              refine sr_nil (hK19 _ _ ?_)
              refine sc_cond (ev_t rfl) (fun h7 => ?_) (fun h7 => ?_)
              · (try simp only [bsimp] at h7)
                refine sc_seq fun K20 hK20 => ?_
                refine sc_text [3, 2, 3] ?_
                refine sr_pu rfl (fun _ => rd_build [_, _] ze_api_Type rfl pl_api_Type (parts_cons ev_c (parts_nil)) rfl) ?_
                refine sr_store_all rfl sz_api_Type (ev_t rfl) (ev_t rfl) rfl rfl B2 rfl rfl ?_
                intro wS7 hgS7 hzS7
                clear B2
                intro B2
                replace B1 := B1.keep hgS7 (by intro h; injection h with h; omega)
                have g := g_only g hgS7 (by intro k hk; injection hk with hk; omega)
                refine sr_pu rfl (fun _ => rd_assign ev_c) ?_
                refine sr_sub [(2, _, _), (3, _, _)] (sub_cons rfl (sub_cons rfl (sub_nil _))) ?_
                refine sr_nil (hK20 _ _ ?_)
                refine sc_ret (t_retv (rs := [.cell 2 23, .tmp 3]) (vs := [_, _]) rfl rfl (evr_c rfl agg_api_Type rfl (by first | exact B1.row | exact B2.row) (evr_t rfl (evr_nil))) rfl ?_)
                obtain ⟨e, hn⟩ := of_typ hty h3
                rw [e]
                have hx := h7
                refine ⟨?_, g⟩
                first
                | (have e2 := of_decide_eq_true hx; rw [e2]; rfl)
                | (have hm := (anyS_iff _ _).1 hn
                   simp only [typeNames, List.mem_cons, List.not_mem_nil, or_false] at hm
                   simp only [decide_eq_false_iff_not] at h4 h5 h6 h7 h8 h9 h10 h11 h12
                   have e2 : t.text = [97, 116, 111, 109, 105, 99] := by simpa only [h4, h5, h6, h7, h8, h9, h10, h11, h12, false_or] using hm
                   rw [e2]; rfl)
              · (try simp only [bsimp] at h7)
                refine sc_seq fun K21 hK21 => ?_
                refine sc_text [3, 3] ?_
                refine sr_pu rfl (fun _ => rd_seq (ev_t rfl) ev_c) ?_
                refine sr_pu rfl (fun _ => rd_assign (ev_t rfl)) ?_
                refine sr_sub [(2, _, _), (3, _, _), (30, _, _), (43, _, _)] (sub_cons rfl (sub_cons rfl (sub_cons rfl (sub_cons rfl (sub_nil _))))) ?_
                refine sr_nil (hK21 _ _ ?_)
                refine sc_cond (ev_t rfl) (fun h8 => ?_) (fun h8 => ?_)
                · (try simp only [bsimp] at h8)
                  refine sc_seq fun K22 hK22 => ?_
                  refine sc_text [3, 2, 3] ?_
                  refine sr_pu rfl (fun _ => rd_build [_, _] ze_api_Type rfl pl_api_Type (parts_cons ev_c (parts_nil)) rfl) ?_
                  refine sr_store_all rfl sz_api_Type (ev_t rfl) (ev_t rfl) rfl rfl B2 rfl rfl ?_
                  intro wS8 hgS8 hzS8
                  clear B2
                  intro B2
                  replace B1 := B1.keep hgS8 (by intro h; injection h with h; omega)
                  have g := g_only g hgS8 (by intro k hk; injection hk with hk; omega)
                  refine sr_pu rfl (fun _ => rd_assign ev_c) ?_
                  refine sr_sub [(2, _, _), (3, _, _)] (sub_cons rfl (sub_cons rfl (sub_nil _))) ?_
                  refine sr_nil (hK22 _ _ ?_)
                  refine sc_ret (t_retv (rs := [.cell 2 23, .tmp 3]) (vs := [_, _]) rfl rfl (evr_c rfl agg_api_Type rfl (by first | exact B1.row | exact B2.row) (evr_t rfl (evr_nil))) rfl ?_)
                  obtain ⟨e, hn⟩ := of_typ hty h3
                  rw [e]
                  have hx := h8
                  refine ⟨?_, g⟩
                  first
                  | (have e2 := of_decide_eq_true hx; rw [e2]; rfl)
                  | (have hm := (anyS_iff _ _).1 hn
                     simp only [typeNames, List.mem_cons, List.not_mem_nil, or_false] at hm
                     simp only [decide_eq_false_iff_not] at h4 h5 h6 h7 h8 h9 h10 h11 h12
                     have e2 : t.text = [97, 116, 111, 109, 105, 99] := by simpa only [h4, h5, h6, h7, h8, h9, h10, h11, h12, false_or] using hm
                     rw [e2]; rfl)
                · (try simp only [bsimp] at h8)
                  refine sc_seq fun K23 hK23 => ?_
                  refine sc_text [3, 3] ?_
                  refine sr_pu rfl (fun _ => rd_seq (ev_t rfl) ev_c) ?_
                  refine sr_pu rfl (fun _ => rd_assign (ev_t rfl)) ?_
                  refine sr_sub [(2, _, _), (3, _, _), (30, _, _), (46, _, _)] (sub_cons rfl (sub_cons rfl (sub_cons rfl (sub_cons rfl (sub_nil _))))) ?_
                  refine sr_nil (hK23 _ _ ?_)
                  refine sc_cond (ev_t rfl) (fun h9 => ?_) (fun h9 => ?_)
                  · (try simp only [bsimp] at h9)
                    refine sc_seq fun K24 hK24 => ?_
                    refine sc_text [3, 2, 3] ?_
                    refine sr_pu rfl (fun _ => rd_build [_, _] ze_api_Type rfl pl_api_Type (parts_cons ev_c (parts_nil)) rfl) ?_
                    refine sr_store_all rfl sz_api_Type (ev_t rfl) (ev_t rfl) rfl rfl B2 rfl rfl ?_
                    intro wS9 hgS9 hzS9
                    clear B2
                    intro B2
                    replace B1 := B1.keep hgS9 (by intro h; injection h with h; omega)
                    have g := g_only g hgS9 (by intro k hk; injection hk with hk; omega)
                    refine sr_pu rfl (fun _ => rd_assign ev_c) ?_
                    refine sr_sub [(2, _, _), (3, _, _)] (sub_cons rfl (sub_cons rfl (sub_nil _))) ?_
                    refine sr_nil (hK24 _ _ ?_)
                    refine sc_ret (t_retv (rs := [.cell 2 23, .tmp 3]) (vs := [_, _]) rfl rfl (evr_c rfl agg_api_Type rfl (by first | exact B1.row | exact B2.row) (evr_t rfl (evr_nil))) rfl ?_)
                    obtain ⟨e, hn⟩ := of_typ hty h3
                    rw [e]
                    have hx := h9
                    refine ⟨?_, g⟩
                    first
                    | (have e2 := of_decide_eq_true hx; rw [e2]; rfl)
                    | (have hm := (anyS_iff _ _).1 hn
                       simp only [typeNames, List.mem_cons, List.not_mem_nil, or_false] at hm
                       simp only [decide_eq_false_iff_not] at h4 h5 h6 h7 h8 h9 h10 h11 h12
                       have e2 : t.text = [97, 116, 111, 109, 105, 99] := by simpa only [h4, h5, h6, h7, h8, h9, h10, h11, h12, false_or] using hm
                       rw [e2]; rfl)
                  · (try simp only [bsimp] at h9)
                    refine sc_seq fun K25 hK25 => ?_
                    refine sc_text [3, 3] ?_
                    refine sr_pu rfl (fun _ => rd_seq (ev_t rfl) ev_c) ?_
                    refine sr_pu rfl (fun _ => rd_assign (ev_t rfl)) ?_
                    refine sr_sub [(2, _, _), (3, _, _), (30, _, _), (49, _, _)] (sub_cons rfl (sub_cons rfl (sub_cons rfl (sub_cons rfl (sub_nil _))))) ?_
                    refine sr_nil (hK25 _ _ ?_)
                    refine sc_cond (ev_t rfl) (fun h10 => ?_) (fun h10 => ?_)
                    · (try simp only [bsimp] at h10)
                      refine sc_seq fun K26 hK26 => ?_
                      refine sc_text [3, 2, 3] ?_
                      refine sr_pu rfl (fun _ => rd_build [_, _] ze_api_Type rfl pl_api_Type (parts_cons ev_c (parts_nil)) rfl) ?_
                      refine sr_store_all rfl sz_api_Type (ev_t rfl) (ev_t rfl) rfl rfl B2 rfl rfl ?_
                      intro wS10 hgS10 hzS10
                      clear B2
                      intro B2
                      replace B1 := B1.keep hgS10 (by intro h; injection h with h; omega)
                      have g := g_only g hgS10 (by intro k hk; injection hk with hk; omega)
                      refine sr_pu rfl (fun _ => rd_assign ev_c) ?_
                      refine sr_sub [(2, _, _), (3, _, _)] (sub_cons rfl (sub_cons rfl (sub_nil _))) ?_
                      refine sr_nil (hK26 _ _ ?_)
                      refine sc_ret (t_retv (rs := [.cell 2 23, .tmp 3]) (vs := [_, _]) rfl rfl (evr_c rfl agg_api_Type rfl (by first | exact B1.row | exact B2.row) (evr_t rfl (evr_nil))) rfl ?_)
                      obtain ⟨e, hn⟩ := of_typ hty h3
                      rw [e]
                      have hx := h10
                      refine ⟨?_, g⟩
                      first
                      | (have e2 := of_decide_eq_true hx; rw [e2]; rfl)
                      | (have hm := (anyS_iff _ _).1 hn
                         simp only [typeNames, List.mem_cons, List.not_mem_nil, or_false] at hm
                         simp only [decide_eq_false_iff_not] at h4 h5 h6 h7 h8 h9 h10 h11 h12
                         have e2 : t.text = [97, 116, 111, 109, 105, 99] := by simpa only [h4, h5, h6, h7, h8, h9, h10, h11, h12, false_or] using hm
                         rw [e2]; rfl)
                    · (try simp only [bsimp] at h10)
                      refine sc_seq fun K27 hK27 => ?_
                      refine sc_text [3, 3] ?_
                      refine sr_pu rfl (fun _ => rd_seq (ev_t rfl) ev_c) ?_
                      refine sr_pu rfl (fun _ => rd_assign (ev_t rfl)) ?_
                      refine sr_sub [(2, _, _), (3, _, _), (30, _, _), (52, _, _)] (sub_cons rfl (sub_cons rfl (sub_cons rfl (sub_cons rfl (sub_nil _))))) ?_
                      refine sr_nil (hK27 _ _ ?_)
                      refine sc_cond (ev_t rfl) (fun h11 => ?_) (fun h11 => ?_)
                      · (try simp only [bsimp] at h11)
                        refine sc_seq fun K28 hK28 => ?_
                        refine sc_text [3, 2, 3] ?_
                        refine sr_pu rfl (fun _ => rd_build [_, _] ze_api_Type rfl pl_api_Type (parts_cons ev_c (parts_nil)) rfl) ?_
                        refine sr_store_all rfl sz_api_Type (ev_t rfl) (ev_t rfl) rfl rfl B2 rfl rfl ?_
                        intro wS11 hgS11 hzS11
                        clear B2
                        intro B2
                        replace B1 := B1.keep hgS11 (by intro h; injection h with h; omega)
                        have g := g_only g hgS11 (by intro k hk; injection hk with hk; omega)
                        refine sr_pu rfl (fun _ => rd_assign ev_c) ?_
                        refine sr_sub [(2, _, _), (3, _, _)] (sub_cons rfl (sub_cons rfl (sub_nil _))) ?_
                        refine sr_nil (hK28 _ _ ?_)
                        refine sc_ret (t_retv (rs := [.cell 2 23, .tmp 3]) (vs := [_, _]) rfl rfl (evr_c rfl agg_api_Type rfl (by first | exact B1.row | exact B2.row) (evr_t rfl (evr_nil))) rfl ?_)
                        obtain ⟨e, hn⟩ := of_typ hty h3
                        rw [e]
                        have hx := h11
                        refine ⟨?_, g⟩
                        first
                        | (have e2 := of_decide_eq_true hx; rw [e2]; rfl)
                        | (have hm := (anyS_iff _ _).1 hn
                           simp only [typeNames, List.mem_cons, List.not_mem_nil, or_false] at hm
                           simp only [decide_eq_false_iff_not] at h4 h5 h6 h7 h8 h9 h10 h11 h12
                           have e2 : t.text = [97, 116, 111, 109, 105, 99] := by simpa only [h4, h5, h6, h7, h8, h9, h10, h11, h12, false_or] using hm
                           rw [e2]; rfl)
                      · (try simp only [bsimp] at h11)
                        refine sc_seq fun K29 hK29 => ?_
                        refine sc_text [3, 3] ?_
                        refine sr_pu rfl (fun _ => rd_seq (ev_t rfl) ev_c) ?_
                        refine sr_pu rfl (fun _ => rd_assign (ev_t rfl)) ?_
                        refine sr_sub [(2, _, _), (3, _, _), (55, _, _)] (sub_cons rfl (sub_cons rfl (sub_cons rfl (sub_nil _)))) ?_
                        refine sr_nil (hK29 _ _ ?_)
                        refine sc_cond (ev_t rfl) (fun h12 => ?_) (fun h12 => ?_)
                        · (try simp only [bsimp] at h12)
                          refine sc_seq fun K30 hK30 => ?_
                          refine sc_text [3, 2, 3] ?_
                          refine sr_pu rfl (fun _ => rd_build [_, _] ze_api_Type rfl pl_api_Type (parts_cons ev_c (parts_nil)) rfl) ?_
                          refine sr_store_all rfl sz_api_Type (ev_t rfl) (ev_t rfl) rfl rfl B2 rfl rfl ?_
                          intro wS12 hgS12 hzS12
                          clear B2
                          intro B2
                          replace B1 := B1.keep hgS12 (by intro h; injection h with h; omega)
                          have g := g_only g hgS12 (by intro k hk; injection hk with hk; omega)
                          refine sr_pu rfl (fun _ => rd_assign ev_c) ?_
                          refine sr_sub [(2, _, _), (3, _, _)] (sub_cons rfl (sub_cons rfl (sub_nil _))) ?_
                          refine sr_nil (hK30 _ _ ?_)
                          refine sc_ret (t_retv (rs := [.cell 2 23, .tmp 3]) (vs := [_, _]) rfl rfl (evr_c rfl agg_api_Type rfl (by first | exact B1.row | exact B2.row) (evr_t rfl (evr_nil))) rfl ?_)
                          obtain ⟨e, hn⟩ := of_typ hty h3
                          rw [e]
                          have hx := h12
                          refine ⟨?_, g⟩
                          first
                          | (have e2 := of_decide_eq_true hx; rw [e2]; rfl)
                          | (have hm := (anyS_iff _ _).1 hn
                             simp only [typeNames, List.mem_cons, List.not_mem_nil, or_false] at hm
                             simp only [decide_eq_false_iff_not] at h4 h5 h6 h7 h8 h9 h10 h11 h12
                             have e2 : t.text = [97, 116, 111, 109, 105, 99] := by simpa only [h4, h5, h6, h7, h8, h9, h10, h11, h12, false_or] using hm
                             rw [e2]; rfl)
                        · (try simp only [bsimp] at h12)
                          refine sc_skip (hK11 _ _ ?_)
                          refine sc_sub [(2, _, _), (3, _, _)] (sub_cons rfl (sub_cons rfl (sub_nil _))) ?_
                          refine sc_seq fun K31 hK31 => ?_
                          refine sc_text [3, 2, 3] ?_
                          refine sr_pu rfl (fun _ => rd_build [_, _] ze_api_Type rfl pl_api_Type (parts_cons ev_c (parts_nil)) rfl) ?_
                          refine sr_store_all rfl sz_api_Type (ev_t rfl) (ev_t rfl) rfl rfl B2 rfl rfl ?_
                          intro wS13 hgS13 hzS13
                          clear B2
                          intro B2
                          replace B1 := B1.keep hgS13 (by intro h; injection h with h; omega)
                          have g := g_only g hgS13 (by intro k hk; injection hk with hk; omega)
                          refine sr_pu rfl (fun _ => rd_assign ev_c) ?_
                          refine sr_nil (hK31 _ _ ?_)
                          refine sc_ret (t_retv (rs := [.cell 2 23, .tmp 3]) (vs := [_, _]) rfl rfl (evr_c rfl agg_api_Type rfl (by first | exact B1.row | exact B2.row) (evr_t rfl (evr_nil))) rfl ?_)
                          obtain ⟨e, hn⟩ := of_typ hty h3
                          rw [e]
                          have hx := h12
                          refine ⟨?_, g⟩
                          first
                          | (have e2 := of_decide_eq_true hx; rw [e2]; rfl)
                          | (have hm := (anyS_iff _ _).1 hn
                             simp only [typeNames, List.mem_cons, List.not_mem_nil, or_false] at hm
                             simp only [decide_eq_false_iff_not] at h4 h5 h6 h7 h8 h9 h10 h11 h12
                             have e2 : t.text = [97, 116, 111, 109, 105, 99] := by simpa only [h4, h5, h6, h7, h8, h9, h10, h11, h12, false_or] using hm
                             rw [e2]; rfl)
theorem rfields_ok (t : Nd) (name : List UInt8) (v : Value) (D : Nat → Prop) (w : World) (hk : Kd w D t.kids v) (hc : count t ≤ 1000000) : Ret PP fn_r05_Fields #[ndV t v, Str name] w fun r w' => FldV (fieldsF t name) r w' ∧ G w w' := by
  obtain ⟨p, c, rfl, hcap, hks⟩ := hk
  have g := G.refl w
  have hlen := kids_le t
  refine ret_of_sc (m := 73) func_r05_Fields rfl rfl [(0, True, _), (1, True, _)] (sub_cons rfl (sub_cons rfl (sub_nil _))) ?_
  refine sc_seq fun K1 hK1 => ?_
  refine sc_text [1, 3, 3] ?_
  refine sr_box rfl (ev_t rfl) rfl ?_
  intro b2 w2 N2
  have l2 := N2.ge g
  have g := g.trans (N2.g)
  try have hO := own_grow hO (N2.g)
  have B2 := N2.blk
  refine sr_pu rfl (fun _ => rd_assign ev_c) ?_
  refine sr_pu rfl (fun _ => rd_assign ev_c) ?_
  refine sr_sub [(1, _, _), (2, _, _), (4, _, _), (5, _, _)] (sub_cons rfl (sub_cons rfl (sub_cons rfl (sub_cons rfl (sub_nil _))))) ?_
  refine sr_nil (hK1 _ _ ?_)
  refine sc_seq fun K2 hK2 => ?_
  refine sc_seq fun K3 hK3 => ?_
  refine sc_text [3] ?_
  refine sr_pu rfl (fun _ => rd_assign ev_c) ?_
  refine sr_nil (hK3 _ _ ?_)
  refine sc_block ?_
  refine sc_loop2 (fun (i : Nat) u1 => (i ≤ t.kids.length ∧ ∀ j, (hj : j < t.kids.length) → j < i → isStr name t.kids[j] = false) ∧ G w2 u1) [(1, True, _), (2, True, _)] (fun (i : Nat) => [(6, True, .int .i64 i)]) (fun (i : Nat) => t.kids.length - i) (0) ⟨⟨Nat.zero_le _, fun j _ hj => absurd hj (Nat.not_lt_zero j)⟩, G.refl _⟩ (sub_cons rfl (sub_cons rfl (sub_cons rfl (sub_nil _)))) ?_
  rintro i u1 ⟨hI1, gl1⟩
  have g := g.trans gl1
  replace B2 := B2.grow (gl1)
  refine sc_seq fun K4 hK4 => ?_
  refine sc_seq fun K5 hK5 => ?_
  refine sc_text [3, 3, 0, 3, 3] ?_
  refine sr_pu rfl (fun _ => rd_move (ev_t rfl)) ?_
  refine sr_pu rfl (fun _ => rd_field fo_api_Node_4 (ev_t rfl)) ?_
  refine sr_rd rfl (rd_load one_sl_api_Node (ev_t rfl) (fun _ => B2.at_ rfl)) ?_
  refine sr_pu rfl (fun _ => rd_len el_sl_api_Node (ev_t rfl)) ?_
  refine sr_pu rfl (fun _ => rd_lt (ev_t rfl) (ev_t rfl)) ?_
  refine sr_sub [(1, _, _), (2, _, _), (6, _, _), (17, _, _)] (sub_cons rfl (sub_cons rfl (sub_cons rfl (sub_cons rfl (sub_nil _))))) ?_
  refine sr_nil (hK5 _ _ ?_)
  refine sc_cond (ev_t rfl) (fun h1 => ?_) (fun h1 => ?_)
  · replace h1 : i < t.kids.length := by simp only [decide_eq_true_eq] at h1; omega
    obtain ⟨b, o, rfl, hD, xs, hR, hX⟩ := hks (by omega)
    obtain ⟨p', c', hcell, hkid⟩ := kd_at hR hX h1
    have hck := count_kid h1
    have hkl := kids_le t.kids[i]
    refine sc_skip (hK4 _ _ ?_)
    refine sc_sub [(1, _, _), (2, _, _), (6, _, _)] (sub_cons rfl (sub_cons rfl (sub_cons rfl (sub_nil _)))) ?_
    refine sc_seq fun K6 hK6 => ?_
    refine sc_block ?_
    refine sc_seq fun K7 hK7 => ?_
    refine sc_text [3, 0, 3, 3, 0, 1, 2] ?_
    refine sr_pu rfl (fun _ => rd_field fo_api_Node_4 (ev_t rfl)) ?_
    refine sr_rd rfl (rd_load one_sl_api_Node (ev_t rfl) (fun _ => B2.at_ rfl)) ?_
    refine sr_pu rfl (fun _ => rd_move (ev_t rfl)) ?_
    refine sr_pu rfl (fun _ => rd_idx el_sl_api_Node (ev_t rfl) (ev_t rfl) (fun _ => by omega)) ?_
    refine sr_rd rfl (rd_loads agg_api_Node (ev_t rfl) rfl (fun _ => hcell.grow g)) ?_
    refine sr_alloc rfl ze_api_Node rfl ?_
    intro b7 w7 N7
    have x7_2 := N7.ne B2
    have l7 := N7.ge g
    try have l7_gl1 := N7.ge gl1
    have g := g.trans (N7.g)
    try have gl1 := gl1.trans (N7.g)
    replace B2 := B2.grow (N7.g)
    try have hO := own_grow hO (N7.g)
    have B7 := N7.blk
    refine sr_store_all rfl sz_api_Node (ev_t rfl) (ev_t rfl) rfl rfl B7 rfl rfl ?_
    intro wS1 hgS1 hzS1
    clear B7
    intro B7
    replace B2 := B2.keep hgS1 (by intro h; injection h with h; omega)
    have g := g_only g hgS1 (by intro k hk; injection hk with hk; omega)
    first | replace gl1 := g_only gl1 hgS1 (by intro k hk; injection hk with hk; omega) | clear gl1 | skip
    refine sr_sub [(1, _, _), (2, _, _), (6, _, _), (7, _, _)] (sub_cons rfl (sub_cons rfl (sub_cons rfl (sub_cons rfl (sub_nil _))))) ?_
    refine sr_nil (hK7 _ _ ?_)
    refine sc_seq fun K8 hK8 => ?_
    refine sc_seq fun K9 hK9 => ?_
    refine sc_text [3, 0, 3, 3, 3, 0, 3, 3, 3] ?_
    refine sr_pu rfl (fun _ => rd_field fo_api_Node_0 (ev_t rfl)) ?_
    refine sr_rd rfl (rd_load one_int (ev_t rfl) (fun _ => B7.at_ rfl)) ?_
    refine sr_pu rfl (fun _ => rd_ne (ev_t rfl) ev_c) ?_
    refine sr_pu rfl (fun _ => rd_move (ev_t rfl)) ?_
    refine sr_pug rfl rfl rfl (fun _ => rd_field fo_api_Node_1 (ev_t rfl)) ?_
    refine sr_rdg rfl rfl rfl (rd_load one_string (ev_u rfl id) (fun _ => B7.at_ rfl)) ?_
    refine sr_pug rfl rfl rfl (fun _ => rd_move (ev_t rfl)) ?_
    refine sr_pug rfl rfl rfl (fun _ => rd_sne (ev_u rfl id) (ev_u rfl id)) ?_
    refine sr_pu rfl (fun _ => rd_pick_or (ev_t rfl) (ev_u rfl id)) ?_
    refine sr_sub [(1, _, _), (2, _, _), (6, _, _), (7, _, _), (33, _, _)] (sub_cons rfl (sub_cons rfl (sub_cons rfl (sub_cons rfl (sub_cons rfl (sub_nil _)))))) ?_
    refine sr_nil (hK9 _ _ ?_)
    refine sc_cond (ev_t rfl) (fun h2 => ?_) (fun h2 => ?_)
    · replace h2 : (!decide (t.kids[i].kind = 2) || !decide (t.kids[i].text = name)) = true := h2
      refine sc_exit rfl (hK6 _ _ ?_)
      refine sc_sub [(1, _, _), (2, _, _), (6, _, _)] (sub_cons rfl (sub_cons rfl (sub_cons rfl (sub_nil _)))) ?_
      refine sc_text [3, 3, 3] ?_
      refine sr_pu rfl (fun _ => rd_move (ev_t rfl)) ?_
      refine sr_pu rfl (fun _ => rd_add (ev_t rfl) ev_c (fun _ => by omega)) ?_
      refine sr_pu rfl (fun _ => rd_assign (ev_t rfl)) ?_
      refine sr_sub [(6, _, _), (1, _, _), (2, _, _)] (sub_cons rfl (sub_cons rfl (sub_cons rfl (sub_nil _)))) ?_
      refine sr_nil (fun a ha => ?_)
      exact ⟨i + 1, ha, ⟨⟨h1, fun j hj1 hj => by
        by_cases e : j = i
        · subst e; unfold isStr; rw [h2]; rfl
        · exact hI1.2 j hj1 (by omega)⟩, gl1⟩, by omega⟩
    · replace h2 : (!decide (t.kids[i].kind = 2) || !decide (t.kids[i].text = name)) = false := h2
      have hf := find_at h1 hI1.2 (by unfold isStr; rw [h2]; rfl)
      have hN : fieldsF t name = match mapO fldOf t.kids[i].kids with
        | none => ([], false)
        | some l => (l, true) := by unfold fieldsF; rw [hf]; try rfl
      obtain ⟨p2, c2, hpe, hcap2, hks2⟩ := hkid
      injection hpe with hpe _ hce
      subst hpe hce
      have hb2 := B2.lt
      have hb7 := B7.lt
      refine sc_skip (hK8 _ _ ?_)
      refine sc_sub [(1, _, _), (2, _, _), (6, _, _), (7, _, _)] (sub_cons rfl (sub_cons rfl (sub_cons rfl (sub_cons rfl (sub_nil _))))) ?_
      refine sc_seq fun K10 hK10 => ?_
      refine sc_text [3] ?_
      refine sr_pu rfl (fun _ => rd_assign ev_c) ?_
      refine sr_nil (hK10 _ _ ?_)
      refine sc_seq fun K11 hK11 => ?_
      refine sc_seq fun K12 hK12 => ?_
      refine sc_text [3] ?_
      refine sr_pu rfl (fun _ => rd_assign ev_c) ?_
      refine sr_nil (hK12 _ _ ?_)
      refine sc_block ?_
      refine sc_loop2 (fun (x : Nat × Option Addr × Nat × List Fld) u2 => match x with | ⟨k, a, ca, l⟩ => (k ≤ t.kids[i].kids.length ∧ mapO fldOf (t.kids[i].kids.take k) = some l ∧ u2.ownsRow wS1.heap.size ty_api_Field 3 (.slice a l.length ca) l.length (l.flatMap fldCells)) ∧ G wS1 u2) [(1, True, _), (2, True, _), (6, True, _), (7, True, _)] (fun (x : Nat × Option Addr × Nat × List Fld) => match x with | ⟨k, a, ca, l⟩ => [(8, True, .slice a l.length ca), (9, True, .int .i64 k)]) (fun (x : Nat × Option Addr × Nat × List Fld) => match x with | ⟨k, a, ca, l⟩ => t.kids[i].kids.length - k) ((0, none, 0, [])) ⟨⟨Nat.zero_le _, rfl, own_none _ _ _ _⟩, G.refl _⟩ (sub_cons rfl (sub_cons rfl (sub_cons rfl (sub_cons rfl (sub_cons rfl (sub_cons rfl (sub_nil _))))))) ?_
      rintro ⟨k, a, ca, l⟩ u2 ⟨hI2, gl2⟩
      have g := g.trans gl2
      have gl1 := gl1.trans gl2
      replace B2 := B2.grow (gl2)
      replace B7 := B7.grow (gl2)
      obtain ⟨hk, hm, hO⟩ := hI2
      have hll := mapO_len fldOf _ _ hm
      rw [List.length_take] at hll
      refine sc_seq fun K13 hK13 => ?_
      refine sc_seq fun K14 hK14 => ?_
      refine sc_text [3, 3, 0, 3, 3] ?_
      refine sr_pu rfl (fun _ => rd_move (ev_t rfl)) ?_
      refine sr_pu rfl (fun _ => rd_field fo_api_Node_4 (ev_t rfl)) ?_
      refine sr_rd rfl (rd_load one_sl_api_Node (ev_t rfl) (fun _ => B7.at_ rfl)) ?_
      refine sr_pu rfl (fun _ => rd_len el_sl_api_Node (ev_t rfl)) ?_
      refine sr_pu rfl (fun _ => rd_lt (ev_t rfl) (ev_t rfl)) ?_
      refine sr_sub [(1, _, _), (2, _, _), (6, _, _), (7, _, _), (8, _, _), (9, _, _), (38, _, _)] (sub_cons rfl (sub_cons rfl (sub_cons rfl (sub_cons rfl (sub_cons rfl (sub_cons rfl (sub_cons rfl (sub_nil _)))))))) ?_
      refine sr_nil (hK14 _ _ ?_)
      refine sc_cond (ev_t rfl) (fun h3 => ?_) (fun h3 => ?_)
      · replace h3 : k < t.kids[i].kids.length := by simp only [decide_eq_true_eq] at h3; omega
        obtain ⟨b2, o2, rfl, hD2, xs2, hR2, hX2⟩ := hks2 (by omega)
        obtain ⟨p3, c3, hcell3, hkid3⟩ := kd_at hR2 hX2 h3
        have hck3 := count_kid h3
        refine sc_skip (hK13 _ _ ?_)
        refine sc_sub [(1, _, _), (2, _, _), (6, _, _), (7, _, _), (8, _, _), (9, _, _)] (sub_cons rfl (sub_cons rfl (sub_cons rfl (sub_cons rfl (sub_cons rfl (sub_cons rfl (sub_nil _))))))) ?_
        refine sc_seq fun K15 hK15 => ?_
        refine sc_block ?_
        refine sc_seq fun K16 hK16 => ?_
        refine sc_text [3, 0, 3, 3, 0, 1, 2] ?_
        refine sr_pu rfl (fun _ => rd_field fo_api_Node_4 (ev_t rfl)) ?_
        refine sr_rd rfl (rd_load one_sl_api_Node (ev_t rfl) (fun _ => B7.at_ rfl)) ?_
        refine sr_pu rfl (fun _ => rd_move (ev_t rfl)) ?_
        refine sr_pu rfl (fun _ => rd_idx el_sl_api_Node (ev_t rfl) (ev_t rfl) (fun _ => by omega)) ?_
        refine sr_rd rfl (rd_loads agg_api_Node (ev_t rfl) rfl (fun _ => hcell3.grow g)) ?_
        have hlt10 := fun k hk => (hO.lt k hk).2
        refine sr_alloc rfl ze_api_Node rfl ?_
        intro b10 w10 N10
        have x10_2 := N10.ne B2
        have x10_7 := N10.ne B7
        have l10 := N10.ge g
        try have l10_gl1 := N10.ge gl1
        try have l10_gl2 := N10.ge gl2
        have g := g.trans (N10.g)
        try have gl1 := gl1.trans (N10.g)
        try have gl2 := gl2.trans (N10.g)
        replace B2 := B2.grow (N10.g)
        replace B7 := B7.grow (N10.g)
        try have hO := own_grow hO (N10.g)
        have B10 := N10.blk
        have ne10 : (Value.slice a l.length ca).ownBlock ≠ some b10 := fun h => by have := hlt10 _ h; have := N10.at_; omega
        refine sr_store_all rfl sz_api_Node (ev_t rfl) (ev_t rfl) rfl rfl B10 rfl rfl ?_
        intro wS2 hgS2 hzS2
        clear B10
        intro B10
        replace B2 := B2.keep hgS2 (by intro h; injection h with h; omega)
        replace B7 := B7.keep hgS2 (by intro h; injection h with h; omega)
        have g := g_only g hgS2 (by intro k hk; injection hk with hk; omega)
        first | replace gl1 := g_only gl1 hgS2 (by intro k hk; injection hk with hk; omega) | clear gl1 | skip
        first | replace gl2 := g_only gl2 hgS2 (by intro k hk; injection hk with hk; omega) | clear gl2 | skip
        have hO := own_keep hO hgS2 (.inr ne10)
        refine sr_sub [(1, _, _), (2, _, _), (6, _, _), (7, _, _), (8, _, _), (9, _, _), (10, _, _)] (sub_cons rfl (sub_cons rfl (sub_cons rfl (sub_cons rfl (sub_cons rfl (sub_cons rfl (sub_cons rfl (sub_nil _)))))))) ?_
        refine sr_nil (hK16 _ _ ?_)
        refine sc_seq fun K17 hK17 => ?_
        refine sc_seq fun K18 hK18 => ?_
        refine sc_text [3, 0, 3, 3, 3, 0, 3, 3, 3] ?_
        refine sr_pu rfl (fun _ => rd_field fo_api_Node_0 (ev_t rfl)) ?_
        refine sr_rd rfl (rd_load one_int (ev_t rfl) (fun _ => B10.at_ rfl)) ?_
        refine sr_pu rfl (fun _ => rd_ne (ev_t rfl) ev_c) ?_
        refine sr_pu rfl (fun _ => rd_move (ev_t rfl)) ?_
        refine sr_pug rfl rfl rfl (fun _ => rd_field fo_api_Node_4 (ev_t rfl)) ?_
        refine sr_rdg rfl rfl rfl (rd_load one_sl_api_Node (ev_u rfl id) (fun _ => B10.at_ rfl)) ?_
        refine sr_pug rfl rfl rfl (fun _ => rd_len el_sl_api_Node (ev_u rfl id)) ?_
        refine sr_pug rfl rfl rfl (fun _ => rd_ne (ev_u rfl id) ev_c) ?_
        refine sr_pu rfl (fun _ => rd_pick_or (ev_t rfl) (ev_u rfl id)) ?_
        refine sr_sub [(1, _, _), (2, _, _), (6, _, _), (7, _, _), (8, _, _), (9, _, _), (10, _, _), (54, _, _)] (sub_cons rfl (sub_cons rfl (sub_cons rfl (sub_cons rfl (sub_cons rfl (sub_cons rfl (sub_cons rfl (sub_cons rfl (sub_nil _))))))))) ?_
        refine sr_nil (hK18 _ _ ?_)
        refine sc_cond (ev_t rfl) (fun h4 => ?_) (fun h4 => ?_)
        · replace h4 : (!decide (t.kids[i].kids[k].kind = 3) || !decide ((t.kids[i].kids[k].kids.length : Int) = 1)) = true := h4
          have hbad := mapO_bad fldOf _ _ (List.getElem_mem h3) (by unfold fldOf; rw [h4]; rfl)
          refine sc_seq fun K19 hK19 => ?_
          refine sc_text [3, 3] ?_
          refine sr_pu rfl (fun _ => rd_assign ev_c) ?_
          refine sr_pu rfl (fun _ => rd_assign ev_c) ?_
          refine sr_sub [(1, _, _), (2, _, _), (4, _, _), (5, _, _), (6, _, _), (7, _, _), (8, _, _), (9, _, _), (10, _, _)] (sub_cons rfl (sub_cons rfl (sub_cons rfl (sub_cons rfl (sub_cons rfl (sub_cons rfl (sub_cons rfl (sub_cons rfl (sub_cons rfl (sub_nil _)))))))))) ?_
          refine sr_nil (hK19 _ _ ?_)
          refine sc_ret (t_rets (ts := [4, 5]) (vs := [_, _]) rfl rfl rfl ?_)
          rw [hN, hbad]; exact ⟨⟨_, rfl, rowf_nil _⟩, g⟩
        · replace h4 : (!decide (t.kids[i].kids[k].kind = 3) || !decide ((t.kids[i].kids[k].kids.length : Int) = 1)) = false := h4
          have h1k : t.kids[i].kids[k].kids.length = 1 := by
            simp only [Bool.or_eq_false_iff, Bool.not_eq_false', decide_eq_true_eq] at h4; omega
          obtain ⟨h0k, ek⟩ := kid0_at h1k
          obtain ⟨p4, c4, hpe4, _, hks4⟩ := hkid3
          injection hpe4 with hpe4 _ hce4
          subst hpe4 hce4
          obtain ⟨b4, o4, rfl, hD4, xs4, hR4, hX4⟩ := hks4 (by omega)
          obtain ⟨p5, c5, hcell5, _⟩ := kd_at hR4 hX4 h0k
          refine sc_skip (hK17 _ _ ?_)
          refine sc_sub [(1, _, _), (2, _, _), (6, _, _), (7, _, _), (8, _, _), (9, _, _), (10, _, _)] (sub_cons rfl (sub_cons rfl (sub_cons rfl (sub_cons rfl (sub_cons rfl (sub_cons rfl (sub_cons rfl (sub_nil _)))))))) ?_
          refine sc_seq fun K20 hK20 => ?_
          refine sc_text [3, 0, 3, 0, 1, 3, 3, 3, 1, 2, 3] ?_
          refine sr_pu rfl (fun _ => rd_field fo_api_Node_4 (ev_t rfl)) ?_
          refine sr_rd rfl (rd_load one_sl_api_Node (ev_t rfl) (fun _ => B10.at_ rfl)) ?_
          refine sr_pu rfl (fun _ => rd_idx el_sl_api_Node (ev_t rfl) ev_c (fun _ => by show (0:Int) ≤ 0 ∧ (0:Int) < ((t.kids[i].kids[k].kids.length : Nat) : Int); omega)) ?_
          refine sr_rd rfl (rd_loads agg_api_Node (ev_t rfl) rfl (fun _ => hcell5.grow g)) ?_
          refine sr_pure rfl (rc_call go_r05_Of ev_f (args_cons (ev_t rfl) (args_nil)) rfl) (rof_ok _ _ _ _) (fun w60 g60 => ?_)
          have g := g.trans (g60)
          try have gl1 := gl1.trans (g60)
          try have gl2 := gl2.trans (g60)
          replace B2 := B2.grow (g60)
          replace B7 := B7.grow (g60)
          replace B10 := B10.grow (g60)
          try have hO := own_grow hO (g60)
          refine sr_pu rfl (fun _ => rd_move (ev_t rfl)) ?_
          refine sr_pu rfl (fun _ => rd_extract (ev_t rfl) rfl) ?_
          refine sr_pu rfl (fun _ => rd_extract (ev_t rfl) rfl) ?_
          have hlt11 := fun k hk => (hO.lt k hk).2
          refine sr_alloc rfl ze_api_Type rfl ?_
          intro b11 w11 N11
          have x11_2 := N11.ne B2
          have x11_7 := N11.ne B7
          have x11_10 := N11.ne B10
          have l11 := N11.ge g
          try have l11_gl1 := N11.ge gl1
          try have l11_gl2 := N11.ge gl2
          have g := g.trans (N11.g)
          try have gl1 := gl1.trans (N11.g)
          try have gl2 := gl2.trans (N11.g)
          replace B2 := B2.grow (N11.g)
          replace B7 := B7.grow (N11.g)
          replace B10 := B10.grow (N11.g)
          try have hO := own_grow hO (N11.g)
          have B11 := N11.blk
          have ne11 : (Value.slice a l.length ca).ownBlock ≠ some b11 := fun h => by have := hlt11 _ h; have := N11.at_; omega
          refine sr_store_all rfl sz_api_Type (ev_t rfl) (ev_t rfl) rfl rfl B11 rfl rfl ?_
          intro wS3 hgS3 hzS3
          clear B11
          intro B11
          replace B2 := B2.keep hgS3 (by intro h; injection h with h; omega)
          replace B7 := B7.keep hgS3 (by intro h; injection h with h; omega)
          replace B10 := B10.keep hgS3 (by intro h; injection h with h; omega)
          have g := g_only g hgS3 (by intro k hk; injection hk with hk; omega)
          first | replace gl1 := g_only gl1 hgS3 (by intro k hk; injection hk with hk; omega) | clear gl1 | skip
          first | replace gl2 := g_only gl2 hgS3 (by intro k hk; injection hk with hk; omega) | clear gl2 | skip
          have hO := own_keep hO hgS3 (.inr ne11)
          refine sr_pu rfl (fun _ => rd_assign (ev_t rfl)) ?_
          refine sr_sub [(1, _, _), (2, _, _), (6, _, _), (7, _, _), (8, _, _), (9, _, _), (10, _, _), (11, _, _), (12, _, _)] (sub_cons rfl (sub_cons rfl (sub_cons rfl (sub_cons rfl (sub_cons rfl (sub_cons rfl (sub_cons rfl (sub_cons rfl (sub_cons rfl (sub_nil _)))))))))) ?_
          refine sr_nil (hK20 _ _ ?_)
          refine sc_seq fun K21 hK21 => ?_
          refine sc_seq fun K22 hK22 => ?_
          refine sc_text [3, 3] ?_
          refine sr_pu rfl (fun _ => rd_move (ev_t rfl)) ?_
          refine sr_pu rfl (fun _ => rd_not (ev_t rfl)) ?_
          refine sr_sub [(1, _, _), (2, _, _), (6, _, _), (7, _, _), (8, _, _), (9, _, _), (10, _, _), (11, _, _), (64, _, _)] (sub_cons rfl (sub_cons rfl (sub_cons rfl (sub_cons rfl (sub_cons rfl (sub_cons rfl (sub_cons rfl (sub_cons rfl (sub_cons rfl (sub_nil _)))))))))) ?_
          refine sr_nil (hK22 _ _ ?_)
          refine sc_cond (ev_t rfl) (fun h5 => ?_) (fun h5 => ?_)
          · replace h5 : (!(ofF t.kids[i].kids[k].kids[0]).2) = true := h5
            have hbad := mapO_bad fldOf _ _ (List.getElem_mem h3) (by unfold fldOf; rw [h4, ek]; simp only [Bool.not_eq_true'] at h5; rw [h5]; rfl)
            refine sc_seq fun K23 hK23 => ?_
            refine sc_text [3, 3] ?_
            refine sr_pu rfl (fun _ => rd_assign ev_c) ?_
            refine sr_pu rfl (fun _ => rd_assign ev_c) ?_
            refine sr_sub [(1, _, _), (2, _, _), (4, _, _), (5, _, _), (6, _, _), (7, _, _), (8, _, _), (9, _, _), (10, _, _), (11, _, _)] (sub_cons rfl (sub_cons rfl (sub_cons rfl (sub_cons rfl (sub_cons rfl (sub_cons rfl (sub_cons rfl (sub_cons rfl (sub_cons rfl (sub_cons rfl (sub_nil _))))))))))) ?_
            refine sr_nil (hK23 _ _ ?_)
            refine sc_ret (t_rets (ts := [4, 5]) (vs := [_, _]) rfl rfl rfl ?_)
            rw [hN, hbad]; exact ⟨⟨_, rfl, rowf_nil _⟩, g⟩
          · replace h5 : (!(ofF t.kids[i].kids[k].kids[0]).2) = false := h5
            have hgood : fldOf t.kids[i].kids[k] = some ⟨t.kids[i].kids[k].text, (ofF t.kids[i].kids[k].kids[0]).1⟩ := by unfold fldOf; rw [h4, ek]; simp only [Bool.not_eq_false'] at h5; rw [h5]; rfl
            refine sc_skip (hK21 _ _ ?_)
            refine sc_sub [(1, _, _), (2, _, _), (6, _, _), (7, _, _), (8, _, _), (9, _, _), (10, _, _), (11, _, _)] (sub_cons rfl (sub_cons rfl (sub_cons rfl (sub_cons rfl (sub_cons rfl (sub_cons rfl (sub_cons rfl (sub_cons rfl (sub_nil _))))))))) ?_
            refine sc_text [3, 3, 0, 0, 3, 1, 2, 3] ?_
            refine sr_pu rfl (fun _ => rd_move (ev_t rfl)) ?_
            refine sr_pu rfl (fun _ => rd_field fo_api_Node_1 (ev_t rfl)) ?_
            refine sr_rd rfl (rd_load one_string (ev_t rfl) (fun _ => B10.at_ rfl)) ?_
            refine sr_rd rfl (rd_loads agg_api_Type (ev_t rfl) rfl (fun _ => B11.row)) ?_
            refine sr_pu rfl (fun _ => rd_build [_, _, _] ze_api_Field rfl pl_api_Field (parts_cons (ev_t rfl) (parts_cons (ev_t rfl) (parts_nil))) rfl) ?_
            refine sr_buildSlice [_, _, _] rfl el_sl_api_Field ze_api_Field (parts_cons (ev_t rfl) (parts_nil)) rfl rfl ?_
            intro b70 w70 N70
            have x70_2 := N70.ne B2
            have x70_7 := N70.ne B7
            have x70_10 := N70.ne B10
            have x70_11 := N70.ne B11
            have l70 := N70.ge g
            try have l70_gl1 := N70.ge gl1
            try have l70_gl2 := N70.ge gl2
            have g := g.trans (N70.g)
            try have gl1 := gl1.trans (N70.g)
            try have gl2 := gl2.trans (N70.g)
            replace B2 := B2.grow (N70.g)
            replace B7 := B7.grow (N70.g)
            replace B10 := B10.grow (N70.g)
            replace B11 := B11.grow (N70.g)
            try have hO := own_grow hO (N70.g)
            have B70 := N70.blk
            refine sr_append rfl el_sl_api_Field ze_api_Field rfl (by decide) (ev_t rfl) hO (ev_t rfl) rfl B70.row rfl (by simp only [maxLen]; omega) (by omega) (by have := gl2.size; omega) ?_
            intro a' c' w71 hO' hg71 hat
            have hOg := fun k hk => (hO.lt k hk).1
            have g := g_only g hg71 (fun k hk => by have := hOg k hk; omega)
            replace gl2 := g_only gl2 hg71 hOg
            replace B2 := B2.keep hg71 (fun he => by have := hOg _ he.symm; omega)
            replace B7 := B7.keep hg71 (fun he => by have := hOg _ he.symm; omega)
            have hO2 := own_snoc ⟨t.kids[i].kids[k].text, (ofF t.kids[i].kids[k].kids[0]).1⟩ hO'
            refine sr_pu rfl (fun _ => rd_assign (ev_t rfl)) ?_
            refine sr_sub [(1, _, _), (2, _, _), (6, _, _), (7, _, _), (8, _, _), (9, _, _)] (sub_cons rfl (sub_cons rfl (sub_cons rfl (sub_cons rfl (sub_cons rfl (sub_cons rfl (sub_nil _))))))) ?_
            refine sr_nil (hK15 _ _ ?_)
            refine sc_text [3, 3, 3] ?_
            refine sr_pu rfl (fun _ => rd_move (ev_t rfl)) ?_
            refine sr_pu rfl (fun _ => rd_add (ev_t rfl) ev_c (fun _ => by omega)) ?_
            refine sr_pu rfl (fun _ => rd_assign (ev_t rfl)) ?_
            refine sr_sub [(8, _, _), (9, _, _), (1, _, _), (2, _, _), (6, _, _), (7, _, _)] (sub_cons rfl (sub_cons rfl (sub_cons rfl (sub_cons rfl (sub_cons rfl (sub_cons rfl (sub_nil _))))))) ?_
            refine sr_nil (fun a ha => ?_)
            refine ⟨(k + 1, a', c', l ++ [⟨t.kids[i].kids[k].text, (ofF t.kids[i].kids[k].kids[0]).1⟩]), ?_, ⟨⟨h3, fld_snoc h3 hm hgood, hO2⟩, gl2⟩, by show t.kids[i].kids.length - (k + 1) < t.kids[i].kids.length - k; omega⟩
            simpa using ha
      · replace h3 : k = t.kids[i].kids.length := by simp only [decide_eq_false_iff_not] at h3; omega
        subst h3
        rw [List.take_length] at hm
        refine sc_exit rfl (hK11 _ _ ?_)
        refine sc_sub [(1, _, _), (2, _, _), (6, _, _), (8, _, _)] (sub_cons rfl (sub_cons rfl (sub_cons rfl (sub_cons rfl (sub_nil _))))) ?_
        refine sc_seq fun K24 hK24 => ?_
        refine sc_text [3, 3, 3] ?_
        refine sr_pu rfl (fun _ => rd_move (ev_t rfl)) ?_
        refine sr_pu rfl (fun _ => rd_assign (ev_t rfl)) ?_
        refine sr_pu rfl (fun _ => rd_assign ev_c) ?_
        refine sr_nil (hK24 _ _ ?_)
        refine sc_sub [(1, _, _), (2, _, _), (4, _, _), (5, _, _), (6, _, _), (8, _, _), (72, _, _)] (sub_cons rfl (sub_cons rfl (sub_cons rfl (sub_cons rfl (sub_cons rfl (sub_cons rfl (sub_cons rfl (sub_nil _)))))))) ?_
        refine sc_ret (t_rets (ts := [4, 5]) (vs := [_, _]) rfl rfl rfl ?_)
        rw [hN, hm]; exact ⟨⟨_, rfl, own_fld hO⟩, g⟩
  · replace h1 : i = t.kids.length := by simp only [decide_eq_false_iff_not] at h1; omega
    subst h1
    refine sc_exit rfl (hK2 _ _ ?_)
    refine sc_sub [] (sub_nil _) ?_
    refine sc_seq fun K25 hK25 => ?_
    refine sc_text [3, 3] ?_
    refine sr_pu rfl (fun _ => rd_assign ev_c) ?_
    refine sr_pu rfl (fun _ => rd_assign ev_c) ?_
    refine sr_nil (hK25 _ _ ?_)
    refine sc_ret (t_rets (ts := [4, 5]) (vs := [_, _]) rfl rfl rfl ?_)
    have hN : fieldsF t name = ([], false) := by unfold fieldsF; rw [find_no fun j hj => hI1.2 j hj (by omega)]
    rw [hN]; exact ⟨⟨_, rfl, rowf_nil _⟩, g⟩
def fldB (a b : Fld) : Bool := (decide (a.name = b.name) && true) && (tyEqB a.ty b.ty && true)
theorem fldB_refl (a : Fld) : fldB a a = true := by simp [fldB, tyEqB_refl]
def sameFld (a b : List Fld) : Bool := decide (a.length = b.length) && (List.range a.length).all fun i => fldB (a.getD i fld0) (b.getD i fld0)
theorem sameFld_refl (a : List Fld) : sameFld a a = true := by
  rw [sameFld, decide_eq_true rfl, Bool.true_and, List.all_eq_true]; intro i _; exact fldB_refl _
theorem samefields_ok (a b : List Fld) (va vb : Value) (w : World) (ha : RowF fldCells w a va) (hb : RowF fldCells w b vb) (hla : a.length < 100000000) : Ret PP fn_r05_SameFields #[va, vb] w fun v w' => v = .bool (sameFld a b) ∧ G w w' := by
  obtain ⟨xa, ca, rfl, _, hra⟩ := ha
  obtain ⟨xb, cb, rfl, _, hrb⟩ := hb
  have g := G.refl w
  refine ret_of_sc (m := 26) func_r05_SameFields rfl rfl [(0, True, _), (1, True, _)] (sub_cons rfl (sub_cons rfl (sub_nil _))) ?_
  refine sc_seq fun K1 hK1 => ?_
  refine sc_text [3] ?_
  refine sr_pu rfl (fun _ => rd_assign ev_c) ?_
  refine sr_nil (hK1 _ _ ?_)
  refine sc_seq fun K2 hK2 => ?_
  refine sc_seq fun K3 hK3 => ?_
  refine sc_text [3, 3, 3, 3, 3] ?_
  refine sr_pu rfl (fun _ => rd_move (ev_t rfl)) ?_
  refine sr_pu rfl (fun _ => rd_len el_sl_api_Field (ev_t rfl)) ?_
  refine sr_pu rfl (fun _ => rd_move (ev_t rfl)) ?_
  refine sr_pu rfl (fun _ => rd_len el_sl_api_Field (ev_t rfl)) ?_
  refine sr_pu rfl (fun _ => rd_ne (ev_t rfl) (ev_t rfl)) ?_
  refine sr_sub [(0, _, _), (1, _, _), (4, _, _), (10, _, _)] (sub_cons rfl (sub_cons rfl (sub_cons rfl (sub_cons rfl (sub_nil _))))) ?_
  refine sr_nil (hK3 _ _ ?_)
  refine sc_cond (ev_t rfl) (fun h1 => ?_) (fun h1 => ?_)
  · have hN : sameFld a b = false := by
      have : ¬ a.length = b.length := by simp at h1; omega
      rw [sameFld, decide_eq_false this]; rfl
    refine sc_seq fun K4 hK4 => ?_
    refine sc_text [3] ?_
    refine sr_pu rfl (fun _ => rd_assign ev_c) ?_
    refine sr_sub [(0, _, _), (1, _, _), (4, _, _)] (sub_cons rfl (sub_cons rfl (sub_cons rfl (sub_nil _)))) ?_
    refine sr_nil (hK4 _ _ ?_)
    refine sc_ret (t_ret1 rfl rfl ?_)
    rw [hN]; exact ⟨rfl, g⟩
  · have hl : a.length = b.length := by simp at h1; omega
    refine sc_skip (hK2 _ _ ?_)
    refine sc_sub [(0, _, _), (1, _, _), (4, _, _)] (sub_cons rfl (sub_cons rfl (sub_cons rfl (sub_nil _)))) ?_
    refine sc_seq fun K5 hK5 => ?_
    refine sc_seq fun K6 hK6 => ?_
    refine sc_text [3] ?_
    refine sr_pu rfl (fun _ => rd_assign ev_c) ?_
    refine sr_nil (hK6 _ _ ?_)
    refine sc_block ?_
    refine sc_loop2 (fun (i : Nat) u1 => (i ≤ a.length ∧ ∀ j, j < i → fldB (a.getD j fld0) (b.getD j fld0) = true) ∧ G w u1) [(0, True, _), (1, True, _)] (fun (i : Nat) => [(5, True, .int .i64 i)]) (fun (i : Nat) => a.length - i) (0) ⟨⟨Nat.zero_le _, fun j hj => absurd hj (Nat.not_lt_zero j)⟩, G.refl _⟩ (sub_cons rfl (sub_cons rfl (sub_cons rfl (sub_nil _)))) ?_
    rintro i u1 ⟨hI1, gl1⟩
    have g := g.trans gl1
    refine sc_seq fun K7 hK7 => ?_
    refine sc_seq fun K8 hK8 => ?_
    refine sc_text [3, 3, 3, 3] ?_
    refine sr_pu rfl (fun _ => rd_move (ev_t rfl)) ?_
    refine sr_pu rfl (fun _ => rd_move (ev_t rfl)) ?_
    refine sr_pu rfl (fun _ => rd_len el_sl_api_Field (ev_t rfl)) ?_
    refine sr_pu rfl (fun _ => rd_lt (ev_t rfl) (ev_t rfl)) ?_
    refine sr_sub [(0, _, _), (1, _, _), (5, _, _), (14, _, _)] (sub_cons rfl (sub_cons rfl (sub_cons rfl (sub_cons rfl (sub_nil _))))) ?_
    refine sr_nil (hK8 _ _ ?_)
    refine sc_cond (ev_t rfl) (fun h2 => ?_) (fun h2 => ?_)
    · replace h2 : i < a.length := by simp only [decide_eq_true_eq] at h2; omega
      obtain ⟨b1, o1, rfl, r1⟩ := hra (by omega)
      obtain ⟨b2, o2, rfl, r2⟩ := hrb (by omega)
      have t1 : RowAt w b1 (o1 + i * 3) (fldCells (a.getD i fld0)) := by
        have := rowf_at fldCells_length r1 h2; rwa [List.getD_eq_getElem?_getD, List.getElem?_eq_getElem h2]
      have t2 : RowAt w b2 (o2 + i * 3) (fldCells (b.getD i fld0)) := by
        have := rowf_at fldCells_length r2 (i := i) (by omega); rwa [List.getD_eq_getElem?_getD, List.getElem?_eq_getElem (by omega)]
      refine sc_skip (hK7 _ _ ?_)
      refine sc_sub [(0, _, _), (1, _, _), (5, _, _)] (sub_cons rfl (sub_cons rfl (sub_cons rfl (sub_nil _)))) ?_
      refine sc_seq fun K9 hK9 => ?_
      refine sc_block ?_
      refine sc_seq fun K10 hK10 => ?_
      refine sc_draw [3, 3, 3, 0, 3, 3, 3, 0, 3] [true, true, true, true, true, true, true, true, true] [0, 0, 3, 7, 0, 0, 48, 112, 255] mix (by kernel_rfl) ?_
      have g := g.trans (G.drew _)
      try have gl1 := gl1.trans (G.drew _)
      refine sr_pu rfl (fun _ => rd_move (ev_t rfl)) ?_
      refine sr_pu rfl (fun _ => rd_move (ev_t rfl)) ?_
      refine sr_pu rfl (fun _ => rd_idx el_sl_api_Field (ev_t rfl) (ev_t rfl) (fun _ => by omega)) ?_
      refine sr_rd rfl (rd_loads agg_api_Field (ev_t rfl) rfl (fun _ => t1.grow g)) ?_
      refine sr_pu rfl (fun _ => rd_move (ev_t rfl)) ?_
      refine sr_pu rfl (fun _ => rd_move (ev_t rfl)) ?_
      refine sr_pu rfl (fun _ => rd_idx el_sl_api_Field (ev_t rfl) (ev_t rfl) (fun _ => by omega)) ?_
      refine sr_rd rfl (rd_loads agg_api_Field (ev_t rfl) rfl (fun _ => t2.grow g)) ?_
      refine sr_pu rfl (fun _ => rd_nsne ne_api_Field (ev_t rfl) (ev_t rfl) rfl) ?_
      refine sr_sub [(0, _, _), (1, _, _), (5, _, _), (25, _, _)] (sub_cons rfl (sub_cons rfl (sub_cons rfl (sub_cons rfl (sub_nil _))))) ?_
      refine sr_nil (hK10 _ _ ?_)
      refine sc_cond (ev_t rfl) (fun h3 => ?_) (fun h3 => ?_)
      · replace h3 : (!fldB (a.getD i fld0) (b.getD i fld0)) = true := h3
        refine sc_seq fun K11 hK11 => ?_
        refine sc_text [3] ?_
        refine sr_pu rfl (fun _ => rd_assign ev_c) ?_
        refine sr_sub [(0, _, _), (1, _, _), (4, _, _), (5, _, _)] (sub_cons rfl (sub_cons rfl (sub_cons rfl (sub_cons rfl (sub_nil _))))) ?_
        refine sr_nil (hK11 _ _ ?_)
        refine sc_ret (t_ret1 rfl rfl ?_)
        refine ⟨congrArg Value.bool ?_, g⟩
        rw [eq_comm, sameFld, decide_eq_true hl, Bool.true_and, List.all_eq_false]
        exact ⟨i, List.mem_range.2 h2, by simpa using h3⟩
      · replace h3 : (!fldB (a.getD i fld0) (b.getD i fld0)) = false := h3
        refine sc_skip (hK9 _ _ ?_)
        refine sc_sub [(0, _, _), (1, _, _), (5, _, _)] (sub_cons rfl (sub_cons rfl (sub_cons rfl (sub_nil _)))) ?_
        refine sc_text [3, 3, 3] ?_
        refine sr_pu rfl (fun _ => rd_move (ev_t rfl)) ?_
        refine sr_pu rfl (fun _ => rd_add (ev_t rfl) ev_c (fun _ => by omega)) ?_
        refine sr_pu rfl (fun _ => rd_assign (ev_t rfl)) ?_
        refine sr_sub [(5, _, _), (0, _, _), (1, _, _)] (sub_cons rfl (sub_cons rfl (sub_cons rfl (sub_nil _)))) ?_
        refine sr_nil (fun a ha => ?_)
        refine ⟨i + 1, ha, ⟨⟨h2, fun j hj => ?_⟩, gl1⟩, by omega⟩
        by_cases e : j = i
        · rw [e]; simpa using h3
        · exact hI1.2 j (by omega)
    · (try simp only [bsimp] at h2)
      refine sc_exit rfl (hK5 _ _ ?_)
      refine sc_sub [] (sub_nil _) ?_
      refine sc_seq fun K12 hK12 => ?_
      refine sc_text [3] ?_
      refine sr_pu rfl (fun _ => rd_assign ev_c) ?_
      refine sr_nil (hK12 _ _ ?_)
      refine sc_ret (t_ret1 rfl rfl ?_)
      refine ⟨congrArg Value.bool ?_, g⟩
      rw [eq_comm, sameFld, decide_eq_true hl, Bool.true_and, List.all_eq_true]
      intro j hj
      exact hI1.2 j (by have := List.mem_range.1 hj; simp only [decide_eq_false_iff_not] at h2; omega)
theorem fields_len (t : Nd) (name : List UInt8) (hc : count t ≤ 1000000) : (fieldsF t name).1.length ≤ 1000000 := by
  unfold fieldsF
  cases hf : t.kids.find? (isStr name) with
  | none => exact Nat.zero_le _
  | some d =>
    cases hm : mapO fldOf d.kids with
    | none => simp only [hm]; exact Nat.zero_le _
    | some l =>
      simp only [hm]
      have := mapO_len fldOf _ _ hm
      have := count_mem (List.mem_of_find?_eq_some hf)
      have := kids_le d
      omega
theorem of_law (t : Nd) (v : Value) (D : Nat → Prop) (w : World) (hL : Laid w) (hTx : LaidT w) (hb3 : 4 ≤ w.heap.size) (hk : Kd w D t.kids v) (hc : count t ≤ 1048576) : Ret PP fn_l05_TypesOf #[ndV t v] w fun v w' => v = .bool true ∧ G w w' := by
  have hk0 := hk
  obtain ⟨p, c, rfl, hcap, hks⟩ := hk
  have g := G.refl w
  refine ret_of_sc (m := 47) func_l05_TypesOf rfl rfl [(0, True, _)] (sub_cons rfl (sub_nil _)) ?_
  refine sc_seq fun K1 hK1 => ?_
  refine sc_text [1, 3] ?_
  refine sr_box rfl (ev_t rfl) rfl ?_
  intro b1 w1 N1
  have l1 := N1.ge g
  have g := g.trans (N1.g)
  have B1 := N1.blk
  refine sr_pu rfl (fun _ => rd_assign ev_c) ?_
  refine sr_sub [(1, _, _), (2, _, _)] (sub_cons rfl (sub_cons rfl (sub_nil _))) ?_
  refine sr_nil (hK1 _ _ ?_)
  refine sc_seq fun K2 hK2 => ?_
  refine sc_seq fun K3 hK3 => ?_
  refine sc_text [1, 3] ?_
  refine sr_pure rfl (rc_call go_l05_awake ev_f (args_nil) rfl) (awake5_ok _ (hL.grow g) (hTx.grow g) (by have := g.size; omega)) (fun w9 g9 => ?_)
  have g := g.trans (g9)
  replace B1 := B1.grow (g9)
  refine sr_pu rfl (fun _ => rd_not (ev_t rfl)) ?_
  refine sr_sub [(1, _, _), (2, _, _), (10, _, _)] (sub_cons rfl (sub_cons rfl (sub_cons rfl (sub_nil _)))) ?_
  refine sr_nil (hK3 _ _ ?_)
  refine sc_false (ev_t rfl) ?_
  refine sc_skip (hK2 _ _ ?_)
  refine sc_sub [(1, _, _), (2, _, _)] (sub_cons rfl (sub_cons rfl (sub_nil _))) ?_
  refine sc_seq fun K4 hK4 => ?_
  refine sc_seq fun K5 hK5 => ?_
  refine sc_text [0, 1, 3] ?_
  refine sr_rd rfl (rd_loads agg_api_Node (ev_t rfl) rfl (fun _ => B1.row)) ?_
  refine sr_pure rfl (rc_call go_r03_Count ev_f (args_cons (ev_t rfl) (args_nil)) rfl) (rcount_ok t _ _ _ (hk0.grow g) (by omega)) (fun w12 g12 => ?_)
  have g := g.trans (g12)
  replace B1 := B1.grow (g12)
  refine sr_pu rfl (fun _ => rd_gt (ev_t rfl) ev_c) ?_
  refine sr_sub [(1, _, _), (2, _, _), (13, _, _)] (sub_cons rfl (sub_cons rfl (sub_cons rfl (sub_nil _)))) ?_
  refine sr_nil (hK5 _ _ ?_)
  refine sc_cond (ev_t rfl) (fun h2 => ?_) (fun h2 => ?_)
  · (try simp only [bsimp] at h2)
    refine sc_seq fun K6 hK6 => ?_
    refine sc_text [3] ?_
    refine sr_pu rfl (fun _ => rd_assign ev_c) ?_
    refine sr_sub [(1, _, _), (2, _, _)] (sub_cons rfl (sub_cons rfl (sub_nil _))) ?_
    refine sr_nil (hK6 _ _ ?_)
    refine sc_ret (t_ret1 rfl rfl ?_)
    exact ⟨rfl, g⟩
  · have hc1 : count t ≤ 100 := by simp only [decide_eq_false_iff_not] at h2; omega
    refine sc_skip (hK4 _ _ ?_)
    refine sc_sub [(1, _, _), (2, _, _)] (sub_cons rfl (sub_cons rfl (sub_nil _))) ?_
    refine sc_seq fun K7 hK7 => ?_
    refine sc_text [0, 1, 3] ?_
    refine sr_rd rfl (rd_loads agg_api_Node (ev_t rfl) rfl (fun _ => B1.row)) ?_
    refine sr_call rfl (rc_call go_r03_List ev_f (args_cons (ev_t rfl) (args_nil)) rfl) (rlist_ok t _ _ _ (hk0.grow g) (by omega)) ?_
    rintro v15 w15 ⟨hl, g15⟩
    obtain ⟨pl, cl, rfl, hcl, hrl⟩ := hl
    refine ⟨fun _ => g15, ?_⟩
    have g := g.trans g15
    have hll := listN_length t
    replace B1 := B1.grow (g15)
    have gm := G.refl w15
    refine sr_pu rfl (fun _ => rd_assign (ev_t rfl)) ?_
    refine sr_sub [(2, _, _), (3, _, _)] (sub_cons rfl (sub_cons rfl (sub_nil _))) ?_
    refine sr_nil (hK7 _ _ ?_)
    refine sc_seq fun K8 hK8 => ?_
    refine sc_seq fun K9 hK9 => ?_
    refine sc_text [3] ?_
    refine sr_pu rfl (fun _ => rd_assign ev_c) ?_
    refine sr_nil (hK9 _ _ ?_)
    refine sc_block ?_
    refine sc_loop2 (fun (i : Nat) u1 => (i ≤ (listN t).length) ∧ G w15 u1) [(3, True, _)] (fun (i : Nat) => [(4, True, .int .i64 i)]) (fun (i : Nat) => (listN t).length - i) (0) ⟨by simp, G.refl _⟩ (sub_cons rfl (sub_cons rfl (sub_nil _))) ?_
    rintro i u1 ⟨hI1, gl1⟩
    have g := g.trans gl1
    have gm := gm.trans gl1
    replace B1 := B1.grow (gl1)
    refine sc_seq fun K10 hK10 => ?_
    refine sc_seq fun K11 hK11 => ?_
    refine sc_text [3, 3, 3, 3] ?_
    refine sr_pu rfl (fun _ => rd_move (ev_t rfl)) ?_
    refine sr_pu rfl (fun _ => rd_move (ev_t rfl)) ?_
    refine sr_pu rfl (fun _ => rd_len el_sl_api_Node (ev_t rfl)) ?_
    refine sr_pu rfl (fun _ => rd_lt (ev_t rfl) (ev_t rfl)) ?_
    refine sr_sub [(3, _, _), (4, _, _), (19, _, _)] (sub_cons rfl (sub_cons rfl (sub_cons rfl (sub_nil _)))) ?_
    refine sr_nil (hK11 _ _ ?_)
    refine sc_cond (ev_t rfl) (fun h3 => ?_) (fun h3 => ?_)
    · replace h3 : i < (listN t).length := by simp only [decide_eq_true_eq] at h3; omega
      obtain ⟨b, o, rfl, hD, xs, hR, hX⟩ := hrl (by omega)
      obtain ⟨p', c', hcell, hkid⟩ := kd_at hR hX h3
      have hcm := listN_mem t _ (List.getElem_mem h3)
      have hkl := kids_le (listN t)[i]
      refine sc_skip (hK10 _ _ ?_)
      refine sc_sub [(3, _, _), (4, _, _)] (sub_cons rfl (sub_cons rfl (sub_nil _))) ?_
      refine sc_seq fun K12 hK12 => ?_
      refine sc_block ?_
      refine sc_seq fun K13 hK13 => ?_
      refine sc_text [3, 3, 3, 0, 1, 1, 3, 3, 3, 1, 2, 3] ?_
      refine sr_pu rfl (fun _ => rd_move (ev_t rfl)) ?_
      refine sr_pu rfl (fun _ => rd_move (ev_t rfl)) ?_
      refine sr_pu rfl (fun _ => rd_idx el_sl_api_Node (ev_t rfl) (ev_t rfl) (fun _ => by omega)) ?_
      refine sr_rd rfl (rd_loads agg_api_Node (ev_t rfl) rfl (fun _ => hcell.grow gm)) ?_
      refine sr_call rfl (rc_call go_r03_Copy ev_f (args_cons (ev_t rfl) (args_nil)) rfl) (rcopy_ok _ _ _ _ (hkid.grow gm) (by omega) (by omega)) ?_
      rintro v27 w27 ⟨⟨p2, c2, rfl, hk2⟩, g27⟩
      refine ⟨fun _ => g27, ?_⟩
      have g := g.trans g27
      try have gm := gm.trans (g27)
      try have gl1 := gl1.trans (g27)
      replace B1 := B1.grow (g27)
      refine sr_pure rfl (rc_call go_types_Of ev_f (args_cons (ev_t rfl) (args_nil)) rfl) (tof_ok _ _ _ _ (hL.grow g) (by have := g.size; omega) (hTx.grow g) (by omega)) (fun w28 g28 => ?_)
      have g := g.trans (g28)
      try have gm := gm.trans (g28)
      try have gl1 := gl1.trans (g28)
      replace B1 := B1.grow (g28)
      refine sr_pu rfl (fun _ => rd_move (ev_t rfl)) ?_
      refine sr_pu rfl (fun _ => rd_extract (ev_t rfl) rfl) ?_
      refine sr_pu rfl (fun _ => rd_extract (ev_t rfl) rfl) ?_
      refine sr_alloc rfl ze_api_Type rfl ?_
      intro b5 w5 N5
      have x5_1 := N5.ne B1
      have l5 := N5.ge g
      try have l5_gm := N5.ge gm
      try have l5_gl1 := N5.ge gl1
      have g := g.trans (N5.g)
      try have gm := gm.trans (N5.g)
      try have gl1 := gl1.trans (N5.g)
      replace B1 := B1.grow (N5.g)
      have B5 := N5.blk
      refine sr_store_all rfl sz_api_Type (ev_t rfl) (ev_t rfl) rfl rfl B5 rfl rfl ?_
      intro wS1 hgS1 hzS1
      clear B5
      intro B5
      replace B1 := B1.keep hgS1 (by intro h; injection h with h; omega)
      have g := g_only g hgS1 (by intro k hk; injection hk with hk; omega)
      first | replace gm := g_only gm hgS1 (by intro k hk; injection hk with hk; omega) | clear gm | skip
      first | replace gl1 := g_only gl1 hgS1 (by intro k hk; injection hk with hk; omega) | clear gl1 | skip
      refine sr_pu rfl (fun _ => rd_assign (ev_t rfl)) ?_
      refine sr_sub [(3, _, _), (4, _, _), (5, _, _), (6, _, _)] (sub_cons rfl (sub_cons rfl (sub_cons rfl (sub_cons rfl (sub_nil _))))) ?_
      refine sr_nil (hK13 _ _ ?_)
      refine sc_seq fun K14 hK14 => ?_
      refine sc_text [3, 3, 3, 0, 1, 3, 3, 3, 1, 2, 3] ?_
      refine sr_pu rfl (fun _ => rd_move (ev_t rfl)) ?_
      refine sr_pu rfl (fun _ => rd_move (ev_t rfl)) ?_
      refine sr_pu rfl (fun _ => rd_idx el_sl_api_Node (ev_t rfl) (ev_t rfl) (fun _ => by omega)) ?_
      refine sr_rd rfl (rd_loads agg_api_Node (ev_t rfl) rfl (fun _ => hcell.grow gm)) ?_
      refine sr_pure rfl (rc_call go_r05_Of ev_f (args_cons (ev_t rfl) (args_nil)) rfl) (rof_ok _ _ _ _) (fun w36 g36 => ?_)
      have g := g.trans (g36)
      try have gm := gm.trans (g36)
      try have gl1 := gl1.trans (g36)
      replace B1 := B1.grow (g36)
      replace B5 := B5.grow (g36)
      refine sr_pu rfl (fun _ => rd_move (ev_t rfl)) ?_
      refine sr_pu rfl (fun _ => rd_extract (ev_t rfl) rfl) ?_
      refine sr_pu rfl (fun _ => rd_extract (ev_t rfl) rfl) ?_
      refine sr_alloc rfl ze_api_Type rfl ?_
      intro b7 w7 N7
      have x7_1 := N7.ne B1
      have x7_5 := N7.ne B5
      have l7 := N7.ge g
      try have l7_gm := N7.ge gm
      try have l7_gl1 := N7.ge gl1
      have g := g.trans (N7.g)
      try have gm := gm.trans (N7.g)
      try have gl1 := gl1.trans (N7.g)
      replace B1 := B1.grow (N7.g)
      replace B5 := B5.grow (N7.g)
      have B7 := N7.blk
      refine sr_store_all rfl sz_api_Type (ev_t rfl) (ev_t rfl) rfl rfl B7 rfl rfl ?_
      intro wS2 hgS2 hzS2
      clear B7
      intro B7
      replace B1 := B1.keep hgS2 (by intro h; injection h with h; omega)
      replace B5 := B5.keep hgS2 (by intro h; injection h with h; omega)
      have g := g_only g hgS2 (by intro k hk; injection hk with hk; omega)
      first | replace gm := g_only gm hgS2 (by intro k hk; injection hk with hk; omega) | clear gm | skip
      first | replace gl1 := g_only gl1 hgS2 (by intro k hk; injection hk with hk; omega) | clear gl1 | skip
      refine sr_pu rfl (fun _ => rd_assign (ev_t rfl)) ?_
      refine sr_sub [(3, _, _), (4, _, _), (5, _, _), (6, _, _), (7, _, _), (8, _, _)] (sub_cons rfl (sub_cons rfl (sub_cons rfl (sub_cons rfl (sub_cons rfl (sub_cons rfl (sub_nil _))))))) ?_
      refine sr_nil (hK14 _ _ ?_)
      refine sc_seq fun K15 hK15 => ?_
      refine sc_text [0, 0, 3, 3, 3, 3, 3, 3] ?_
      refine sr_rd rfl (rd_loads agg_api_Type (ev_t rfl) rfl (fun _ => B5.row)) ?_
      refine sr_rd rfl (rd_loads agg_api_Type (ev_t rfl) rfl (fun _ => B7.row)) ?_
      refine sr_pu rfl (fun _ => rd_stne fl_api_Type (ev_t rfl) (ev_t rfl) rfl) ?_
      refine sr_pu rfl (fun _ => rd_move (ev_t rfl)) ?_
      refine sr_pug rfl rfl rfl (fun _ => rd_move (ev_t rfl)) ?_
      refine sr_pug rfl rfl rfl (fun _ => rd_move (ev_t rfl)) ?_
      refine sr_pug rfl rfl rfl (fun _ => rd_bne und_bool (ev_u rfl id) (ev_u rfl id)) ?_
      refine sr_pu rfl (fun _ => rd_pick_or (ev_t rfl) (ev_u rfl id)) ?_
      refine sr_sub [(3, _, _), (4, _, _), (46, _, _)] (sub_cons rfl (sub_cons rfl (sub_cons rfl (sub_nil _)))) ?_
      refine sr_nil (hK15 _ _ ?_)
      refine sc_cond (ev_t rfl) (fun h4 => ?_) (fun h4 => ?_)
      · replace h4 : (!tyEqB (ofF (listN t)[i]).1 (ofF (listN t)[i]).1 || ((ofF (listN t)[i]).2 != (ofF (listN t)[i]).2)) = true := h4
        rw [tyEqB_refl] at h4; simp at h4
        done
      · replace h4 : (!tyEqB (ofF (listN t)[i]).1 (ofF (listN t)[i]).1 || ((ofF (listN t)[i]).2 != (ofF (listN t)[i]).2)) = false := h4
        refine sc_skip (hK12 _ _ ?_)
        refine sc_sub [(3, _, _), (4, _, _)] (sub_cons rfl (sub_cons rfl (sub_nil _))) ?_
        refine sc_text [3, 3, 3] ?_
        refine sr_pu rfl (fun _ => rd_move (ev_t rfl)) ?_
        refine sr_pu rfl (fun _ => rd_add (ev_t rfl) ev_c (fun _ => by omega)) ?_
        refine sr_pu rfl (fun _ => rd_assign (ev_t rfl)) ?_
        refine sr_sub [(4, _, _), (3, _, _)] (sub_cons rfl (sub_cons rfl (sub_nil _))) ?_
        refine sr_nil (fun a ha => ?_)
        exact ⟨i + 1, ha, ⟨h3, gl1⟩, by omega⟩
    · (try simp only [bsimp] at h3)
      refine sc_exit rfl (hK8 _ _ ?_)
      refine sc_sub [] (sub_nil _) ?_
      refine sc_seq fun K16 hK16 => ?_
      refine sc_text [3] ?_
      refine sr_pu rfl (fun _ => rd_assign ev_c) ?_
      refine sr_nil (hK16 _ _ ?_)
      refine sc_ret (t_ret1 rfl rfl ?_)
      exact ⟨rfl, g⟩
theorem fields_law (t : Nd) (v : Value) (D : Nat → Prop) (name : List UInt8) (w : World) (hL : Laid w) (hTx : LaidT w) (hb3 : 4 ≤ w.heap.size) (hk : Kd w D t.kids v) (hc : count t ≤ 1048576) : Ret PP fn_l05_TypesFields #[ndV t v, Str name] w fun v w' => v = .bool true ∧ G w w' := by
  have hk0 := hk
  obtain ⟨p, c, rfl, hcap, hks⟩ := hk
  have g := G.refl w
  refine ret_of_sc (m := 35) func_l05_TypesFields rfl rfl [(0, True, _), (1, True, _)] (sub_cons rfl (sub_cons rfl (sub_nil _))) ?_
  refine sc_seq fun K1 hK1 => ?_
  refine sc_text [1, 3] ?_
  refine sr_box rfl (ev_t rfl) rfl ?_
  intro b2 w2 N2
  have l2 := N2.ge g
  have g := g.trans (N2.g)
  have B2 := N2.blk
  refine sr_pu rfl (fun _ => rd_assign ev_c) ?_
  refine sr_sub [(1, _, _), (2, _, _), (4, _, _)] (sub_cons rfl (sub_cons rfl (sub_cons rfl (sub_nil _)))) ?_
  refine sr_nil (hK1 _ _ ?_)
  refine sc_seq fun K2 hK2 => ?_
  refine sc_seq fun K3 hK3 => ?_
  refine sc_text [1, 3] ?_
  refine sr_pure rfl (rc_call go_l05_awake ev_f (args_nil) rfl) (awake5_ok _ (hL.grow g) (hTx.grow g) (by have := g.size; omega)) (fun w9 g9 => ?_)
  have g := g.trans (g9)
  replace B2 := B2.grow (g9)
  refine sr_pu rfl (fun _ => rd_not (ev_t rfl)) ?_
  refine sr_sub [(1, _, _), (2, _, _), (4, _, _), (10, _, _)] (sub_cons rfl (sub_cons rfl (sub_cons rfl (sub_cons rfl (sub_nil _))))) ?_
  refine sr_nil (hK3 _ _ ?_)
  refine sc_false (ev_t rfl) ?_
  refine sc_skip (hK2 _ _ ?_)
  refine sc_sub [(1, _, _), (2, _, _), (4, _, _)] (sub_cons rfl (sub_cons rfl (sub_cons rfl (sub_nil _)))) ?_
  refine sc_seq fun K4 hK4 => ?_
  refine sc_seq fun K5 hK5 => ?_
  refine sc_text [0, 1, 3] ?_
  refine sr_rd rfl (rd_loads agg_api_Node (ev_t rfl) rfl (fun _ => B2.row)) ?_
  refine sr_pure rfl (rc_call go_r03_Count ev_f (args_cons (ev_t rfl) (args_nil)) rfl) (rcount_ok t _ _ _ (hk0.grow g) (by omega)) (fun w12 g12 => ?_)
  have g := g.trans (g12)
  replace B2 := B2.grow (g12)
  refine sr_pu rfl (fun _ => rd_gt (ev_t rfl) ev_c) ?_
  refine sr_sub [(1, _, _), (2, _, _), (4, _, _), (13, _, _)] (sub_cons rfl (sub_cons rfl (sub_cons rfl (sub_cons rfl (sub_nil _))))) ?_
  refine sr_nil (hK5 _ _ ?_)
  refine sc_cond (ev_t rfl) (fun h2 => ?_) (fun h2 => ?_)
  · (try simp only [bsimp] at h2)
    refine sc_seq fun K6 hK6 => ?_
    refine sc_text [3] ?_
    refine sr_pu rfl (fun _ => rd_assign ev_c) ?_
    refine sr_sub [(1, _, _), (2, _, _), (4, _, _)] (sub_cons rfl (sub_cons rfl (sub_cons rfl (sub_nil _)))) ?_
    refine sr_nil (hK6 _ _ ?_)
    refine sc_ret (t_ret1 rfl rfl ?_)
    exact ⟨rfl, g⟩
  · have hc1 : count t ≤ 150 := by simp only [decide_eq_false_iff_not] at h2; omega
    have hlen := kids_le t
    refine sc_skip (hK4 _ _ ?_)
    refine sc_sub [(1, _, _), (2, _, _), (4, _, _)] (sub_cons rfl (sub_cons rfl (sub_cons rfl (sub_nil _)))) ?_
    refine sc_seq fun K7 hK7 => ?_
    refine sc_text [0, 1, 3, 1, 3, 3, 3, 3, 3] ?_
    refine sr_rd rfl (rd_loads agg_api_Node (ev_t rfl) rfl (fun _ => B2.row)) ?_
    refine sr_call rfl (rc_call go_r03_Copy ev_f (args_cons (ev_t rfl) (args_nil)) rfl) (rcopy_ok _ _ _ _ (hk0.grow g) (by omega) (by omega)) ?_
    rintro v16 w16 ⟨⟨p2, c2, rfl, hk2⟩, g16⟩
    refine ⟨fun _ => g16, ?_⟩
    have g := g.trans g16
    replace B2 := B2.grow (g16)
    refine sr_pu rfl (fun _ => rd_move (ev_t rfl)) ?_
    refine sr_call rfl (rc_call go_types_Fields ev_f (args_cons (ev_t rfl) (args_cons (ev_t rfl) (args_nil))) rfl) (tfields_ok t name _ _ _ (hL.grow g) (by have := g.size; omega) (hTx.grow g) hk2 (by omega)) ?_
    rintro v18 w18 ⟨⟨l1, rfl, hR1⟩, g18⟩
    refine ⟨fun _ => g18, ?_⟩
    have g := g.trans g18
    replace B2 := B2.grow (g18)
    refine sr_pu rfl (fun _ => rd_move (ev_t rfl)) ?_
    refine sr_pu rfl (fun _ => rd_extract (ev_t rfl) rfl) ?_
    refine sr_pu rfl (fun _ => rd_extract (ev_t rfl) rfl) ?_
    refine sr_pu rfl (fun _ => rd_assign (ev_t rfl)) ?_
    refine sr_pu rfl (fun _ => rd_assign (ev_t rfl)) ?_
    refine sr_sub [(1, _, _), (2, _, _), (4, _, _), (5, _, _), (6, _, _)] (sub_cons rfl (sub_cons rfl (sub_cons rfl (sub_cons rfl (sub_cons rfl (sub_nil _)))))) ?_
    refine sr_nil (hK7 _ _ ?_)
    refine sc_seq fun K8 hK8 => ?_
    refine sc_text [0, 3, 1, 3, 3, 3, 3, 3] ?_
    refine sr_rd rfl (rd_loads agg_api_Node (ev_t rfl) rfl (fun _ => B2.row)) ?_
    refine sr_pu rfl (fun _ => rd_move (ev_t rfl)) ?_
    refine sr_call rfl (rc_call go_r05_Fields ev_f (args_cons (ev_t rfl) (args_cons (ev_t rfl) (args_nil))) rfl) (rfields_ok t name _ _ _ (hk0.grow g) (by omega)) ?_
    rintro v24 w24 ⟨⟨l2, rfl, hR2⟩, g24⟩
    refine ⟨fun _ => g24, ?_⟩
    have g := g.trans g24
    have hR1 := hR1.grow g24
    have hfl := fields_len t name (by omega)
    replace B2 := B2.grow (g24)
    refine sr_pu rfl (fun _ => rd_move (ev_t rfl)) ?_
    refine sr_pu rfl (fun _ => rd_extract (ev_t rfl) rfl) ?_
    refine sr_pu rfl (fun _ => rd_extract (ev_t rfl) rfl) ?_
    refine sr_pu rfl (fun _ => rd_assign (ev_t rfl)) ?_
    refine sr_pu rfl (fun _ => rd_assign (ev_t rfl)) ?_
    refine sr_sub [(4, _, _), (5, _, _), (6, _, _), (7, _, _), (8, _, _)] (sub_cons rfl (sub_cons rfl (sub_cons rfl (sub_cons rfl (sub_cons rfl (sub_nil _)))))) ?_
    refine sr_nil (hK8 _ _ ?_)
    refine sc_seq fun K9 hK9 => ?_
    refine sc_text [3, 3, 3, 3, 3, 3, 1, 3, 3] ?_
    refine sr_pu rfl (fun _ => rd_move (ev_t rfl)) ?_
    refine sr_pu rfl (fun _ => rd_move (ev_t rfl)) ?_
    refine sr_pu rfl (fun _ => rd_beq und_bool (ev_t rfl) (ev_t rfl)) ?_
    refine sr_pu rfl (fun _ => rd_move (ev_t rfl)) ?_
    refine sr_pug rfl rfl rfl (fun _ => rd_move (ev_t rfl)) ?_
    refine sr_pug rfl rfl rfl (fun _ => rd_move (ev_t rfl)) ?_
    refine sr_pureg rfl rfl rfl (fun _ => (rc_call go_r05_SameFields ev_f (args_cons (ev_u rfl id) (args_cons (ev_u rfl id) (args_nil))) rfl)) (fun hc => samefields_ok (fieldsF t name).1 (fieldsF t name).1 _ _ _ hR1 hR2 (by omega)) (fun w33 g33 => ?_)
    have g := g.trans (g33)
    replace B2 := B2.grow (g33)
    refine sr_pu rfl (fun _ => rd_pick_and (ev_t rfl) (ev_u rfl id)) ?_
    refine sr_pu rfl (fun _ => rd_assign (ev_t rfl)) ?_
    refine sr_sub [(4, _, _)] (sub_cons rfl (sub_nil _)) ?_
    refine sr_nil (hK9 _ _ ?_)
    refine sc_ret (t_ret1 rfl rfl ?_)
    refine ⟨congrArg Value.bool ?_, g⟩
    rw [sameFld_refl]; simp
end Go.Rk
