/- Merged texts of one road: FldR, FldE, FldG, FldS. Conditions: each text's own. -/
import Derived.Test.YteicjpedahoilaaGreatDoorA13
import Derived.Test.YteicjpedahoilaaGreatDoorA05
set_option linter.unusedSimpArgs false
set_option linter.unusedVariables false
namespace Go.Rk
open Go Go.RowKit
set_option linter.unusedVariables false
theorem rplain_ok : ∀ (t : Nd) (v : Value) (D : Nat → Prop) (w : World), Kd w D t.kids v → count t ≤ 1000000 → Ret PP fn_r07_plain #[ndV t v] w fun r w' => RetNd (plainT t) w.heap.size r w' ∧ G w w' := by
  refine Nd.ind fun t ih v D w hk hc => ?_
  have hlen := kids_le t
  obtain ⟨p, c, rfl, hcap, hks⟩ := hk
  have g := G.refl w
  refine ret_of_sc (m := 35) func_r07_plain rfl rfl [(0, True, _)] (sub_cons rfl (sub_nil _)) ?_
  refine sc_seq fun K1 hK1 => ?_
  refine sc_text [1, 1] ?_
  refine sr_box rfl (ev_t rfl) rfl ?_
  intro b1 w1 N1
  have l1 := N1.ge g
  have g := g.trans (N1.g)
  try have hO := hO.grow (N1.g)
  have B1 := N1.blk
  refine sr_alloc rfl ze_api_Node rfl ?_
  intro b2 w2 N2
  have x2_1 := N2.ne B1
  have l2 := N2.ge g
  have g := g.trans (N2.g)
  replace B1 := B1.grow (N2.g)
  try have hO := hO.grow (N2.g)
  have B2 := N2.blk
  refine sr_sub [(1, _, _), (2, _, _)] (sub_cons rfl (sub_cons rfl (sub_nil _))) ?_
  refine sr_nil (hK1 _ _ ?_)
  refine sc_seq fun K2 hK2 => ?_
  refine sc_text [3, 0, 3, 0, 3, 0, 3, 1, 1, 2] ?_
  refine sr_pu rfl (fun _ => rd_field fo_api_Node_0 (ev_t rfl)) ?_
  refine sr_rd rfl (rd_load one_int (ev_t rfl) (fun _ => B1.at_ rfl)) ?_
  refine sr_pu rfl (fun _ => rd_field fo_api_Node_1 (ev_t rfl)) ?_
  refine sr_rd rfl (rd_load one_string (ev_t rfl) (fun _ => B1.at_ rfl)) ?_
  refine sr_pu rfl (fun _ => rd_field fo_api_Node_2 (ev_t rfl)) ?_
  refine sr_rd rfl (rd_load one_int (ev_t rfl) (fun _ => B1.at_ rfl)) ?_
  refine sr_pu rfl (fun _ => rd_build [_, _, _, _, _, _, _, _, _] ze_api_Node rfl pl_api_Node (parts_cons (ev_t rfl) (parts_cons (ev_t rfl) (parts_cons (ev_t rfl) (parts_nil)))) rfl) ?_
  refine sr_call rfl (rc_call go_r03_Strip ev_f (args_cons (ev_t rfl) (args_nil)) rfl) (rstrip_leaf (.mk t.kind t.text t.num 0 [] ty0 0 0) _ rfl) ?_
  rintro v12 w12 ⟨rfl, g12⟩
  refine ⟨fun _ => g12, ?_⟩
  have g := g.trans (g12)
  replace B1 := B1.grow (g12)
  replace B2 := B2.grow (g12)
  try have hO := hO.grow (g12)
  refine sr_alloc rfl ze_api_Node rfl ?_
  intro b3 w3 N3
  have x3_1 := N3.ne B1
  have x3_2 := N3.ne B2
  have l3 := N3.ge g
  have g := g.trans (N3.g)
  replace B1 := B1.grow (N3.g)
  replace B2 := B2.grow (N3.g)
  try have hO := hO.grow (N3.g)
  have B3 := N3.blk
  refine sr_store_all rfl sz_api_Node (ev_t rfl) (ev_t rfl) rfl rfl B3 rfl rfl ?_
  intro wS1 hgS1 hzS1
  clear B3
  intro B3
  replace B1 := B1.keep hgS1 (by intro h; injection h with h; first | exact x3_1 h.symm | exact x1_3 h | omega)
  replace B2 := B2.keep hgS1 (by intro h; injection h with h; first | exact x3_2 h.symm | exact x2_3 h | omega)
  have g := g_only g hgS1 (by intro k hk; injection hk with hk; omega)
  refine sr_sub [(1, _, _), (2, _, _), (3, _, _)] (sub_cons rfl (sub_cons rfl (sub_cons rfl (sub_nil _)))) ?_
  refine sr_nil (hK2 _ _ ?_)
  refine sc_seq fun K3 hK3 => ?_
  refine sc_text [3, 0, 3, 2] ?_
  refine sr_pu rfl (fun _ => rd_field fo_api_Node_3 (ev_t rfl)) ?_
  refine sr_rd rfl (rd_load one_int (ev_t rfl) (fun _ => B1.at_ rfl)) ?_
  refine sr_pu rfl (fun _ => rd_field fo_api_Node_3 (ev_t rfl)) ?_
  refine sr_store_one rfl sz_int (ev_t rfl) (ev_t rfl) rfl B3 rfl rfl ?_
  intro wS2 hgS2 hzS2
  clear B3
  intro B3
  replace B1 := B1.keep hgS2 (by intro h; injection h with h; first | exact x3_1 h.symm | exact x1_3 h | omega)
  replace B2 := B2.keep hgS2 (by intro h; injection h with h; first | exact x3_2 h.symm | exact x2_3 h | omega)
  have g := g_only g hgS2 (by intro k hk; injection hk with hk; omega)
  refine sr_sub [(1, _, _), (2, _, _), (3, _, _)] (sub_cons rfl (sub_cons rfl (sub_cons rfl (sub_nil _)))) ?_
  refine sr_nil (hK3 _ _ ?_)
  refine sc_seq fun K4 hK4 => ?_
  refine sc_seq fun K5 hK5 => ?_
  refine sc_text [3] ?_
  replace B3 : Blk wS2 b3 ty_api_Node (ndCells (plainT t) (.slice none 0 0)) := by
    have h := B3
    rw [plain_cells]; exact h
  refine sr_pu rfl (fun _ => rd_assign ev_c) ?_
  refine sr_nil (hK5 _ _ ?_)
  refine sc_block ?_
  refine sc_loop3 (fun (i : Nat) u1 => (i ≤ t.kids.length ∧ ∃ s, Blk u1 b3 ty_api_Node (ndCells (plainT t) s) ∧ OwnK ty_api_Node (Dx w.heap.size [b1, b2, b3]) w.heap.size u1 ((t.kids.take i).map plainT) s) ∧ G w u1) _ [(1, True, _), (2, True, _), (3, True, _)] (fun (i : Nat) => [(4, True, .int .i64 i)]) (fun (i : Nat) => t.kids.length - i) (0) ⟨⟨Nat.zero_le _, _, B3, ownK_nil _ _ _ _⟩, g⟩ (andE_mk (blkE B1) (andE_mk (blkE B2) (nilE_mk _))) (sub_cons rfl (sub_cons rfl (sub_cons rfl (sub_cons rfl (sub_nil _))))) ?_
  clear B1 B2 B3
  rintro i u1 ⟨hI1, gl1⟩ ⟨B1, B2, _⟩
  replace B1 : Blk _ _ _ _ := B1
  replace B2 : Blk _ _ _ _ := B2
  have g := gl1
  obtain ⟨hi, s, B3, hO⟩ := hI1
  obtain ⟨sa, sc, rfl⟩ := hO.slice
  refine sc_seq fun K6 hK6 => ?_
  refine sc_seq fun K7 hK7 => ?_
  refine sc_text [3, 3, 0, 3, 3] ?_
  refine sr_pu rfl (fun _ => rd_move (ev_t rfl)) ?_
  refine sr_pu rfl (fun _ => rd_field fo_api_Node_4 (ev_t rfl)) ?_
  refine sr_rd rfl (rd_load one_sl_api_Node (ev_t rfl) (fun _ => B1.at_ rfl)) ?_
  refine sr_pu rfl (fun _ => rd_len el_sl_api_Node (ev_t rfl)) ?_
  refine sr_pu rfl (fun _ => rd_lt (ev_t rfl) (ev_t rfl)) ?_
  refine sr_sub [(1, _, _), (2, _, _), (3, _, _), (4, _, _), (20, _, _)] (sub_cons rfl (sub_cons rfl (sub_cons rfl (sub_cons rfl (sub_cons rfl (sub_nil _)))))) ?_
  refine sr_nil (hK7 _ _ ?_)
  refine sc_cond (ev_t rfl) (fun h1 => ?_) (fun h1 => ?_)
  · replace h2 : i < t.kids.length := by simp only [decide_eq_true_eq] at h1; omega
    obtain ⟨b, o, rfl, hD, xs, hR, hX⟩ := hks (by omega)
    obtain ⟨p', c', hcell, hkid⟩ := kd_at hR hX h2
    have hck := count_kid h2
    have hkl := kids_le t.kids[i]
    have hu := g.size
    refine sc_skip (hK6 _ _ ?_)
    refine sc_sub [(1, _, _), (2, _, _), (3, _, _), (4, _, _)] (sub_cons rfl (sub_cons rfl (sub_cons rfl (sub_cons rfl (sub_nil _))))) ?_
    refine sc_seq fun K8 hK8 => ?_
    refine sc_block ?_
    refine sc_draw [3, 0, 3, 0, 3, 3, 0, 1, 1, 2, 3, 2] [true, true, true, true, true, true, true, true, true, true, true, true] [0, 1, 0, 4, 0, 28, 60, 124, 252, 511, 1023, 2047] mix (by kernel_rfl) ?_
    have g := g.trans (G.drew _)
    replace B1 := B1.grow (G.drew _)
    replace B2 := B2.grow (G.drew _)
    replace B3 := B3.grow (G.drew _)
    try have hO := hO.grow (G.drew _)
    have hB1lt := B1.lt
    have hB2lt := B2.lt
    have hB3lt := B3.lt
    have hOlt := hO.lt
    refine sr_pu rfl (fun _ => rd_field fo_api_Node_4 (ev_t rfl)) ?_
    refine sr_rd rfl (rd_load one_sl_api_Node (ev_t rfl) (fun _ => B3.at_ rfl)) ?_
    refine sr_pu rfl (fun _ => rd_field fo_api_Node_4 (ev_t rfl)) ?_
    refine sr_rd rfl (rd_load one_sl_api_Node (ev_t rfl) (fun _ => B1.at_ rfl)) ?_
    refine sr_pu rfl (fun _ => rd_move (ev_t rfl)) ?_
    refine sr_pu rfl (fun _ => rd_idx el_sl_api_Node (ev_t rfl) (ev_t rfl) (fun _ => by omega)) ?_
    refine sr_rd rfl (rd_loads agg_api_Node (ev_t rfl) rfl (fun _ => hcell.grow g)) ?_
    refine sr_call rfl (rc_call go_r07_plain ev_f (args_cons (ev_t rfl) (args_nil)) rfl) (ih _ (List.getElem_mem h2) _ _ _ (hkid.grow g) (by omega)) ?_
    rintro v30 w30 ⟨⟨p2, c2, rfl, hk2⟩, g30⟩
    refine ⟨fun _ => g30, ?_⟩
    have g := g.trans g30
    replace B1 := B1.grow (g30)
    replace B2 := B2.grow (g30)
    replace B3 := B3.grow (g30)
    try have hO := hO.grow (g30)
    refine sr_buildSlice [_, _, _, _, _, _, _, _, _] rfl el_sl_api_Node ze_api_Node (parts_cons (ev_t rfl) (parts_nil)) rfl rfl ?_
    intro b31 w31 N31
    have x31_1 := N31.ne B1
    have x31_2 := N31.ne B2
    have x31_3 := N31.ne B3
    have l31 := N31.ge g
    have g := g.trans (N31.g)
    replace B1 := B1.grow (N31.g)
    replace B2 := B2.grow (N31.g)
    replace B3 := B3.grow (N31.g)
    try have hO := hO.grow (N31.g)
    have B31 := N31.blk
    have hk2 := hk2.grow N31.g
    have hOo := hO
    refine sr_appendK rfl el_sl_api_Node ze_api_Node rfl (ev_t rfl) hO (ev_t rfl) rfl B31.row (krow_one (hk2.mono fun k hk _ => ⟨⟨by have : u1.heap.size ≤ k := hk; omega, by have : u1.heap.size ≤ k := hk; have := hB1lt; have := hB2lt; have := hB3lt; simp; omega⟩, fun he => by have := hOlt k he.symm; have : u1.heap.size ≤ k := hk; omega⟩)) (by simp; omega) (by have := g.size; omega) ⟨by have := g.size; omega, by have q1 := B1.lt; have q2 := B2.lt; have q3 := B3.lt; simp; omega⟩ ?_
    intro a32 c32 w32 hO hg32
    replace B1 := B1.keep hg32 (hOo.ne (by simp [Dx]))
    replace B2 := B2.keep hg32 (hOo.ne (by simp [Dx]))
    replace B3 := B3.keep hg32 (hOo.ne (by simp [Dx]))
    have g := g_only g hg32 (fun k hk => hOo.ge k hk)
    refine sr_pu rfl (fun _ => rd_field fo_api_Node_4 (ev_t rfl)) ?_
    refine sr_store_one rfl sz_sl_api_Node (ev_t rfl) (ev_t rfl) rfl B3 rfl rfl ?_
    intro wS3 hgS3 hzS3
    clear B3
    intro B3
    replace B1 := B1.keep hgS3 (by intro h; injection h with h; first | exact x3_1 h.symm | exact x1_3 h | omega)
    replace B2 := B2.keep hgS3 (by intro h; injection h with h; first | exact x3_2 h.symm | exact x2_3 h | omega)
    have g := g_only g hgS3 (by intro k hk; injection hk with hk; omega)
    have hO := hO.keep hgS3 (by simp [Dx])
    refine sr_sub [(1, _, _), (2, _, _), (3, _, _), (4, _, _)] (sub_cons rfl (sub_cons rfl (sub_cons rfl (sub_cons rfl (sub_nil _))))) ?_
    refine sr_nil (hK8 _ _ ?_)
    refine sc_text [3, 3, 3] ?_
    refine sr_pu rfl (fun _ => rd_move (ev_t rfl)) ?_
    refine sr_pu rfl (fun _ => rd_add (ev_t rfl) ev_c (fun _ => by omega)) ?_
    refine sr_pu rfl (fun _ => rd_assign (ev_t rfl)) ?_
    refine sr_sub [(4, _, _), (1, _, _), (2, _, _), (3, _, _)] (sub_cons rfl (sub_cons rfl (sub_cons rfl (sub_cons rfl (sub_nil _))))) ?_
    refine sr_nil (fun a ha => ?_)
    exact ⟨i + 1, ha, ⟨⟨h2, _, B3, by rw [take_step h2, List.map_append]; exact hO⟩, g⟩, (andE_mk (blkE B1) (andE_mk (blkE B2) (nilE_mk _))), by omega⟩
  replace h2 : i = t.kids.length := by simp only [decide_eq_false_iff_not] at h1; omega
  subst h2
  rw [List.take_length] at hO B3
  refine sc_exit rfl (hK4 _ _ ?_)
  refine sc_sub [(2, _, _), (3, _, _)] (sub_cons rfl (sub_cons rfl (sub_nil _))) ?_
  refine sc_seq fun K9 hK9 => ?_
  refine sc_text [0, 2] ?_
  refine sr_rd rfl (rd_loads agg_api_Node (ev_t rfl) rfl (fun _ => B3.row)) ?_
  refine sr_store_all rfl sz_api_Node (ev_t rfl) (ev_t rfl) rfl rfl B2 rfl rfl ?_
  intro wS4 hgS4 hzS4
  clear B2
  intro B2
  replace B1 := B1.keep hgS4 (by intro h; injection h with h; first | exact x2_1 h.symm | exact x1_2 h | omega)
  replace B3 := B3.keep hgS4 (by intro h; injection h with h; first | exact x2_3 h.symm | exact x3_2 h | omega)
  have g := g_only g hgS4 (by intro k hk; injection hk with hk; omega)
  have hO := hO.keep hgS4 (by simp [Dx])
  refine sr_nil (hK9 _ _ ?_)
  refine sc_ret (t_retv1 rfl (evr_c rfl agg_api_Node rfl (by first | exact B1.row | exact B2.row | exact B3.row) (evr_nil)) ?_)
  exact ⟨retNd_kd (by rw [plain_kids]; exact hO.kd fun b hb => hb.1), g⟩
def replR (v : Int) (b : Bool) (pos : Int) : Nd := bif b then boP v pos else bif decide (v < 0) then unN (IntKind.i64.wrap (0 - v)) pos else nmP v pos
theorem replR_eq {c : Cst} {pos : Int} (h : (replT c pos).2 = true) : (replT c pos).1 = replR c.2 c.1 pos := by
  unfold replR replT at *
  cases hb : c.1
  · rw [hb] at h
    by_cases h0 : 0 ≤ c.2
    · rw [cond_false, cond_false, decide_eq_true h0, decide_eq_false (show ¬ c.2 < 0 by omega)]; rfl
    · rw [cond_false, decide_eq_false h0, cond_false] at h
      cases hm : !decide (c.2 = -9223372036854775808)
      · rw [hm] at h; cases h
      · rw [cond_false, cond_false, decide_eq_false h0, decide_eq_true (show c.2 < 0 by omega)]; rfl
  · rfl
theorem replT_2 {c : Cst} {pos : Int} (hb : c.1 = true → c.2 = 0 ∨ c.2 = 1) : (replT c pos).2 = !decide (c.2 = -9223372036854775808) := by
  unfold replT
  cases h : c.1
  · by_cases h0 : 0 ≤ c.2
    · rw [cond_false, decide_eq_true h0, cond_true, decide_eq_false (by omega)]; rfl
    · rw [cond_false, decide_eq_false h0, cond_false]; cases !decide (c.2 = -9223372036854775808) <;> rfl
  · rw [decide_eq_false (show ¬ c.2 = -9223372036854775808 by have := hb h; omega)]; rfl
theorem rreplaced_ok (v : Int) (b : Bool) (pos : Int) (w : World) : Ret PP fn_r07_replaced #[.int .i64 v, .bool b, .int .i64 pos] w fun r w' => RetNd (replR v b pos) w.heap.size r w' ∧ G w w' := by
  have g := G.refl w
  refine ret_of_sc (m := 23) func_r07_replaced rfl rfl [(0, True, _), (1, True, _), (2, True, _)] (sub_cons rfl (sub_cons rfl (sub_cons rfl (sub_nil _)))) ?_
  refine sc_seq fun K1 hK1 => ?_
  refine sc_text [1] ?_
  refine sr_alloc rfl ze_api_Node rfl ?_
  intro b6 w6 N6
  have l6 := N6.ge g
  have g := g.trans (N6.g)
  have B6 := N6.blk
  refine sr_nil (hK1 _ _ ?_)
  refine sc_seq fun K2 hK2 => ?_
  refine sc_seq fun K3 hK3 => ?_
  refine sc_text [3] ?_
  refine sr_pu rfl (fun _ => rd_move (ev_t rfl)) ?_
  refine sr_sub [(0, _, _), (2, _, _), (6, _, _), (7, _, _)] (sub_cons rfl (sub_cons rfl (sub_cons rfl (sub_cons rfl (sub_nil _))))) ?_
  refine sr_nil (hK3 _ _ ?_)
  refine sc_cond (ev_t rfl) (fun h1 => ?_) (fun h1 => ?_)
  · (try simp only [bsimp] at h1)
    refine sc_seq fun K4 hK4 => ?_
    refine sc_text [3, 3, 3, 2] ?_
    refine sr_pu rfl (fun _ => rd_move (ev_t rfl)) ?_
    refine sr_pu rfl (fun _ => rd_move (ev_t rfl)) ?_
    refine sr_pu rfl (fun _ => rd_build [_, _, _, _, _, _, _, _, _] ze_api_Node rfl pl_api_Node (parts_cons ev_c (parts_cons (ev_t rfl) (parts_cons (ev_t rfl) (parts_nil)))) rfl) ?_
    refine sr_store_all rfl sz_api_Node (ev_t rfl) (ev_t rfl) rfl rfl B6 rfl rfl ?_
    intro wS1 hgS1 hzS1
    clear B6
    intro B6
    have g := g_only g hgS1 (by intro k hk; injection hk with hk; omega)
    refine sr_sub [(0, _, _), (2, _, _), (6, _, _)] (sub_cons rfl (sub_cons rfl (sub_cons rfl (sub_nil _)))) ?_
    refine sr_nil (hK4 _ _ ?_)
    refine sc_ret (t_retv1 rfl (evr_c rfl agg_api_Node rfl (by first | exact B6.row) (evr_nil)) ?_)
    refine ⟨?_, g⟩
    unfold replR; rw [h1]; exact retNd_leaf _ _ _ rfl
  (try simp only [bsimp] at h1)
  refine sc_skip (hK2 _ _ ?_)
  refine sc_sub [(0, _, _), (2, _, _), (6, _, _)] (sub_cons rfl (sub_cons rfl (sub_cons rfl (sub_nil _)))) ?_
  refine sc_seq fun K5 hK5 => ?_
  refine sc_seq fun K6 hK6 => ?_
  refine sc_text [3, 3] ?_
  refine sr_pu rfl (fun _ => rd_move (ev_t rfl)) ?_
  refine sr_pu rfl (fun _ => rd_lt (ev_t rfl) ev_c) ?_
  refine sr_sub [(0, _, _), (2, _, _), (6, _, _), (12, _, _)] (sub_cons rfl (sub_cons rfl (sub_cons rfl (sub_cons rfl (sub_nil _))))) ?_
  refine sr_nil (hK6 _ _ ?_)
  refine sc_cond (ev_t rfl) (fun h2 => ?_) (fun h2 => ?_)
  · (try simp only [bsimp] at h2)
    refine sc_seq fun K7 hK7 => ?_
    refine sc_text [3, 3, 3, 3, 3, 1, 3, 2] ?_
    refine sr_pu rfl (fun _ => rd_move (ev_t rfl)) ?_
    refine sr_pu rfl (fun _ => rd_move (ev_t rfl)) ?_
    refine sr_pu rfl (fun _ => rd_negw (ev_t rfl)) ?_
    refine sr_pu rfl (fun _ => rd_move (ev_t rfl)) ?_
    refine sr_pu rfl (fun _ => rd_build [_, _, _, _, _, _, _, _, _] ze_api_Node rfl pl_api_Node (parts_cons ev_c (parts_cons (ev_t rfl) (parts_cons (ev_t rfl) (parts_nil)))) rfl) ?_
    refine sr_buildSlice [_, _, _, _, _, _, _, _, _] rfl el_sl_api_Node ze_api_Node (parts_cons (ev_t rfl) (parts_nil)) rfl rfl ?_
    intro b18 w18 N18
    have x18_6 := N18.ne B6
    have l18 := N18.ge g
    have g := g.trans (N18.g)
    replace B6 := B6.grow (N18.g)
    have B18 := N18.blk
    refine sr_pu rfl (fun _ => rd_build [_, _, _, _, _, _, _, _, _] ze_api_Node rfl pl_api_Node (parts_cons ev_c (parts_cons ev_c (parts_cons (ev_t rfl) (parts_cons (ev_t rfl) (parts_nil))))) rfl) ?_
    refine sr_store_all rfl sz_api_Node (ev_t rfl) (ev_t rfl) rfl rfl B6 rfl rfl ?_
    intro wS2 hgS2 hzS2
    clear B6
    intro B6
    replace B18 := B18.keep hgS2 (by intro h; injection h with h; first | exact x6_18 h.symm | exact x18_6 h | omega)
    have g := g_only g hgS2 (by intro k hk; injection hk with hk; omega)
    refine sr_sub [(0, _, _), (2, _, _), (6, _, _)] (sub_cons rfl (sub_cons rfl (sub_cons rfl (sub_nil _)))) ?_
    refine sr_nil (hK7 _ _ ?_)
    refine sc_ret (t_retv1 rfl (evr_c rfl agg_api_Node rfl (by first | exact B6.row | exact B18.row) (evr_nil)) ?_)
    refine ⟨?_, g⟩
    unfold replR; simp only [h1, h2, cond_true, cond_false]
    exact ⟨_, _, rfl, kd_row (by omega) B18.row (krow_one (t := .mk 24 [] (IntKind.i64.wrap (0 - v)) pos [] ty0 0 0) (kd_nil _ _)) (Nat.le_refl _)⟩
  (try simp only [bsimp] at h2)
  refine sc_skip (hK5 _ _ ?_)
  refine sc_sub [(0, _, _), (2, _, _), (6, _, _)] (sub_cons rfl (sub_cons rfl (sub_cons rfl (sub_nil _)))) ?_
  refine sc_seq fun K8 hK8 => ?_
  refine sc_text [3, 3, 3, 2] ?_
  refine sr_pu rfl (fun _ => rd_move (ev_t rfl)) ?_
  refine sr_pu rfl (fun _ => rd_move (ev_t rfl)) ?_
  refine sr_pu rfl (fun _ => rd_build [_, _, _, _, _, _, _, _, _] ze_api_Node rfl pl_api_Node (parts_cons ev_c (parts_cons (ev_t rfl) (parts_cons (ev_t rfl) (parts_nil)))) rfl) ?_
  refine sr_store_all rfl sz_api_Node (ev_t rfl) (ev_t rfl) rfl rfl B6 rfl rfl ?_
  intro wS3 hgS3 hzS3
  clear B6
  intro B6
  have g := g_only g hgS3 (by intro k hk; injection hk with hk; omega)
  refine sr_sub [(6, _, _)] (sub_cons rfl (sub_nil _)) ?_
  refine sr_nil (hK8 _ _ ?_)
  refine sc_ret (t_retv1 rfl (evr_c rfl agg_api_Node rfl (by first | exact B6.row) (evr_nil)) ?_)
  refine ⟨?_, g⟩
  unfold replR; simp only [h1, h2, cond_true, cond_false]; exact retNd_leaf _ _ _ rfl
theorem perm_18e {t : Nd} (h : t.kind = 18) (hp : permF t = true) : exprB (kidAt t 0) = true := by
  have hl := perm_18 h hp
  have hq := perm_kidAt (i := 0) hp (by omega)
  rw [permF_eq, locB, Bool.and_eq_true, Bool.and_eq_true, formB, h] at hp
  have hf : (kidsB t [expK, memK [10], memK [10, 18, 9]] && t.kids.all permF) = true := Bool.and_eq_true_iff.2 ⟨hp.1.2, hp.2⟩
  rw [kids_3] at hf
  simp only [Bool.and_eq_true] at hf
  rw [exprB, hq, hf.2.1.1.1]; rfl
theorem fold_n {t : Nd} {b : Bool} (h : (valC t).2 = b) (hb : b = false) : ((valC t).2 && (replT (valC t).1 t.pos).2) = false := by rw [h, hb]; rfl
theorem fold_if {t : Nd} (h : t.kind = 18) (hn : ((valC t).2 && (replT (valC t).1 t.pos).2) = false) : foldT t = bif (valC (kidAt t 0)).2 then (bif decide ((valC (kidAt t 0)).1.2 = 1) then (t.kids.map foldT).getD 1 nd0 else bif decide ((kidAt t 2).kind = 9) then .mk 10 [] 0 t.pos [] ty0 0 0 else (t.kids.map foldT).getD 2 nd0) else Nd.mk t.kind t.text (bif decide (t.kind = 24) || decide (t.kind = 25) then t.num else 0) t.pos (t.kids.map foldT) ty0 0 0 := by
  rw [foldT_eq t]; unfold foldF; rw [hn, decide_eq_true h]; cases (valC (kidAt t 0)).2 <;> rfl
theorem fold_o {t : Nd} (hn : ((valC t).2 && (replT (valC t).1 t.pos).2) = false) (h : (decide (t.kind = 18) && (valC (kidAt t 0)).2) = false) : foldT t = Nd.mk t.kind t.text (bif decide (t.kind = 24) || decide (t.kind = 25) then t.num else 0) t.pos (t.kids.map foldT) ty0 0 0 := by
  rw [foldT_eq t]; unfold foldF; rw [hn, h]; rfl
theorem foldT_lit {t : Nd} (h : (valC t).2 = true) (h2 : (replT (valC t).1 t.pos).2 = true) : foldT t = (replT (valC t).1 t.pos).1 := by
  rw [foldT_eq]; unfold foldF; simp only [h, h2, cond_true, Bool.and_self]
set_option maxHeartbeats 8000000 in
theorem rfolded_ok : ∀ (t : Nd), plainT t = t → permF t = true → count t ≤ 1000000 → ∀ (v : Value) (D : Nat → Prop) (w : World), Kd w D t.kids v → Ret PP fn_r07_folded #[ndV t v] w fun r w' => RetNd (foldT t) w.heap.size r w' ∧ G w w' := by
  refine Nd.ind fun t ih hpl hp hcn v D w hk => ?_
  obtain ⟨hnum, hty, href, hup, hplk⟩ := plain_fix hpl
  obtain ⟨p, c, rfl, hcap, hks⟩ := hk
  have hk0 : Kd w D t.kids (.slice p t.kids.length c) := ⟨p, c, rfl, hcap, hks⟩
  have g := G.refl w
  have hln := kids_le t
  have hf : ∀ k ∈ t.kids, ∀ (v : Value) (D : Nat → Prop) (w : World), Kd w D k.kids v → Ret PP fn_r07_folded #[ndV k v] w fun r w' => RetNd (foldT k) w.heap.size r w' ∧ G w w' := fun k hk v D w hkd => ih k hk (hplk k hk) (perm_kid hp hk) (by have := count_mem hk; omega) v D w hkd
  have hl18 : t.kind = 18 → t.kids.length = 3 := fun h => perm_18 h hp
  have he18 : t.kind = 18 → exprB (kidAt t 0) = true := fun h => perm_18e h hp
  have hfi : ∀ i, i < t.kids.length → ∀ (v : Value) (D : Nat → Prop) (w : World), Kd w D (kidAt t i).kids v → Ret PP fn_r07_folded #[ndV (kidAt t i) v] w fun r w' => RetNd (foldT (kidAt t i)) w.heap.size r w' ∧ G w w' := fun i h => hf _ (by rw [kidAt_eq h]; exact List.getElem_mem h)
  have hself : Nd.mk t.kind t.text (bif decide (t.kind = 24) || decide (t.kind = 25) then t.num else 0) t.pos (t.kids.map foldT) ty0 0 0 = Nd.mk t.kind t.text t.num t.pos (t.kids.map foldT) t.ty t.ref t.up := by
    rw [hty, href, hup]; congr 1
  obtain ⟨p0, c0, h0x⟩ := kd_optx hk0 0
  obtain ⟨p1, c1, h1x⟩ := kd_optx hk0 1
  obtain ⟨p2, c2, h2x⟩ := kd_optx hk0 2
  refine ret_of_sc (m := 89) func_r07_folded rfl rfl [(0, True, _)] (sub_cons rfl (sub_nil _)) ?_
  refine sc_seq fun K1 hK1 => ?_
  refine sc_text [1, 1] ?_
  refine sr_box rfl (ev_t rfl) rfl ?_
  intro b1 w1 N1
  have l1 := N1.ge g
  have g := g.trans (N1.g)
  try have hk5 := hk5.grow (N1.g)
  try have hO := hO.grow (N1.g)
  have B1 := N1.blk
  refine sr_alloc rfl ze_api_Node rfl ?_
  intro b2 w2 N2
  have x2_1 := N2.ne B1
  have l2 := N2.ge g
  have g := g.trans (N2.g)
  replace B1 := B1.grow (N2.g)
  try have hk5 := hk5.grow (N2.g)
  try have hO := hO.grow (N2.g)
  have B2 := N2.blk
  refine sr_sub [(1, _, _), (2, _, _)] (sub_cons rfl (sub_cons rfl (sub_nil _))) ?_
  refine sr_nil (hK1 _ _ ?_)
  refine sc_seq fun K2 hK2 => ?_
  refine sc_seq fun K3 hK3 => ?_
  refine sc_text [0, 1] ?_
  refine sr_rd rfl (rd_loads agg_api_Node (ev_t rfl) rfl (fun _ => B1.row)) ?_
  refine sr_pure rfl (rc_call go_r03_IsExpr ev_f (args_cons (ev_t rfl) (args_nil)) rfl) ((rok t hcn).ex _ _ D _ (hk0.grow g)) (fun w12 g12 => ?_)
  have g := g.trans (g12)
  replace B1 := B1.grow (g12)
  replace B2 := B2.grow (g12)
  try have hk5 := hk5.grow (g12)
  try have hO := hO.grow (g12)
  refine sr_sub [(1, _, _), (2, _, _), (12, _, _)] (sub_cons rfl (sub_cons rfl (sub_cons rfl (sub_nil _)))) ?_
  refine sr_nil (hK3 _ _ ?_)
  refine sc_cond (ev_t rfl) (fun h1 => ?_) (fun h1 => ?_)
  · have hrc := refC_val t h1
    have hnl : ((valC t).2 && (replT (valC t).1 t.pos).2) = ((refC t).2 && !decide ((refC t).1.2 = -9223372036854775808)) := by
      cases hv : (valC t).2
      · rw [hrc.1, hv]; rfl
      · rw [hrc.2 hv, hv, replT_2 fun hb => valC_bool t hv hb]
    refine sc_seq fun K4 hK4 => ?_
    refine sc_text [0, 1, 3, 3, 3, 3, 3, 3, 3] ?_
    refine sr_rd rfl (rd_loads agg_api_Node (ev_t rfl) rfl (fun _ => B1.row)) ?_
    refine sr_pure rfl (rc_call go_r07_constant ev_f (args_cons (ev_t rfl) (args_nil)) rfl) (rconst_ok t _ D _ (hk0.grow g) h1) (fun w15 g15 => ?_)
    have g := g.trans (g15)
    replace B1 := B1.grow (g15)
    replace B2 := B2.grow (g15)
    try have hk5 := hk5.grow (g15)
    try have hO := hO.grow (g15)
    refine sr_pu rfl (fun _ => rd_move (ev_t rfl)) ?_
    refine sr_pu rfl (fun _ => rd_extract (ev_t rfl) rfl) ?_
    refine sr_pu rfl (fun _ => rd_extract (ev_t rfl) rfl) ?_
    refine sr_pu rfl (fun _ => rd_extract (ev_t rfl) rfl) ?_
    refine sr_pu rfl (fun _ => rd_assign (ev_t rfl)) ?_
    refine sr_pu rfl (fun _ => rd_assign (ev_t rfl)) ?_
    refine sr_pu rfl (fun _ => rd_assign (ev_t rfl)) ?_
    refine sr_sub [(1, _, _), (2, _, _), (3, _, _), (4, _, _), (5, _, _)] (sub_cons rfl (sub_cons rfl (sub_cons rfl (sub_cons rfl (sub_cons rfl (sub_nil _)))))) ?_
    refine sr_nil (hK4 _ _ ?_)
    refine sc_seq fun K5 hK5 => ?_
    refine sc_text [3, 3, 3, 3, 3] ?_
    refine sr_pu rfl (fun _ => rd_move (ev_t rfl)) ?_
    refine sr_pu rfl (fun _ => rd_move (ev_t rfl)) ?_
    refine sr_pug rfl rfl rfl (fun _ => rd_move (ev_t rfl)) ?_
    refine sr_pug rfl rfl rfl (fun _ => rd_ne (ev_u rfl id) ev_c) ?_
    refine sr_pu rfl (fun _ => rd_pick_and (ev_t rfl) (ev_u rfl id)) ?_
    refine sr_sub [(1, _, _), (2, _, _), (3, _, _), (4, _, _), (23, _, _)] (sub_cons rfl (sub_cons rfl (sub_cons rfl (sub_cons rfl (sub_cons rfl (sub_nil _)))))) ?_
    refine sr_nil (hK5 _ _ ?_)
    refine sc_cond (ev_t rfl) (fun h2 => ?_) (fun h2 => ?_)
    · rw [h2] at hnl
      have hnl' := Bool.and_eq_true_iff.1 hnl
      have hT : foldT t = replR (refC t).1.2 (refC t).1.1 t.pos := by rw [foldT_lit hnl'.1 hnl'.2, replR_eq hnl'.2, hrc.2 hnl'.1]
      refine sc_seq fun K6 hK6 => ?_
      refine sc_text [3, 3, 3, 0, 1, 2] ?_
      refine sr_pu rfl (fun _ => rd_move (ev_t rfl)) ?_
      refine sr_pu rfl (fun _ => rd_move (ev_t rfl)) ?_
      refine sr_pu rfl (fun _ => rd_field fo_api_Node_3 (ev_t rfl)) ?_
      refine sr_rd rfl (rd_load one_int (ev_t rfl) (fun _ => B1.at_ rfl)) ?_
      refine sr_call rfl (rc_call go_r07_replaced ev_f (args_cons (ev_t rfl) (args_cons (ev_t rfl) (args_cons (ev_t rfl) (args_nil)))) rfl) (rreplaced_ok _ _ _ _) ?_
      rintro v28 w28 ⟨⟨p5, c5, rfl, hk5⟩, g28⟩
      refine ⟨fun _ => g28, ?_⟩
      have hlow := g.size
      have hB2 := B2.lt
      have g := g.trans g28
      have hk5 := hk5.lt
      replace B1 := B1.grow (g28)
      replace B2 := B2.grow (g28)
      try have hk5 := hk5.grow (g28)
      try have hO := hO.grow (g28)
      refine sr_store_all rfl sz_api_Node (ev_t rfl) (ev_t rfl) rfl rfl B2 rfl rfl ?_
      intro wS1 hgS1 hzS1
      clear B2
      intro B2
      replace B1 := B1.keep hgS1 (by intro h; injection h with h; first | exact x2_1 h.symm | exact x1_2 h | omega)
      have g := g_only g hgS1 (by intro k hk; injection hk with hk; omega)
      try have hk5 := hk5.keep hgS1 (fun b hb _ he => by injection he with he; have hb := hb.1; omega)
      try have hO := hO.keep hgS1 (by simp [Dx])
      refine sr_sub [(1, _, _), (2, _, _)] (sub_cons rfl (sub_cons rfl (sub_nil _))) ?_
      refine sr_nil (hK6 _ _ ?_)
      refine sc_ret (t_retv1 rfl (evr_c rfl agg_api_Node rfl (by first | exact B1.row | exact B2.row) (evr_nil)) ?_)
      first
        | exact ⟨⟨_, _, by rw [hT], by rw [hT]; exact hk5.mono fun b hb _ => Nat.le_trans hlow hb.1⟩, g⟩
        | exact ⟨by rw [hT]; exact retNd_leaf _ _ _ rfl, g⟩
        | exact ⟨by rw [hT]; exact retNd_kd (hO.kd fun b hb => hb.1), g⟩
    rw [h2] at hnl
    refine sc_skip (hK2 _ _ ?_)
    refine sc_sub [(1, _, _), (2, _, _)] (sub_cons rfl (sub_cons rfl (sub_nil _))) ?_
    refine sc_seq fun K7 hK7 => ?_
    refine sc_seq fun K8 hK8 => ?_
    refine sc_text [3, 0, 3] ?_
    refine sr_pu rfl (fun _ => rd_field fo_api_Node_0 (ev_t rfl)) ?_
    refine sr_rd rfl (rd_load one_int (ev_t rfl) (fun _ => B1.at_ rfl)) ?_
    refine sr_pu rfl (fun _ => rd_eq (ev_t rfl) ev_c) ?_
    refine sr_sub [(1, _, _), (2, _, _), (31, _, _)] (sub_cons rfl (sub_cons rfl (sub_cons rfl (sub_nil _)))) ?_
    refine sr_nil (hK8 _ _ ?_)
    refine sc_cond (ev_t rfl) (fun h3 => ?_) (fun h3 => ?_)
    · (try simp only [bsimp] at h3)
      refine sc_seq fun K9 hK9 => ?_
      refine sc_text [3, 0, 3, 0, 1, 3, 3, 3, 3, 3, 3, 3] ?_
      have hk18 : t.kind = 18 := of_decide_eq_true h3
      have hl3 := hl18 hk18
      have hex := he18 hk18
      have hr0 := refC_val _ hex
      have hfd := fold_if hk18 (by first | exact hnl | exact fold_n hnl rfl)
      refine sr_pu rfl (fun _ => rd_field fo_api_Node_4 (ev_t rfl)) ?_
      refine sr_rd rfl (rd_load one_sl_api_Node (ev_t rfl) (fun _ => B1.at_ rfl)) ?_
      refine sr_pu rfl (fun _ => rd_idxq el_sl_api_Node (ev_t rfl) ev_c (fun _ => by omega) (fun _ => (h0x (by omega)).1)) ?_
      refine sr_rd rfl (rd_loads agg_api_Node (ev_t rfl) rfl (fun _ => (h0x (by omega)).2.1.grow g)) ?_
      refine sr_pure rfl (rc_call go_r07_constant ev_f (args_cons (ev_t rfl) (args_nil)) rfl) (rconst_ok (kidAt t 0) _ D _ ((h0x (by omega)).2.2.grow g) hex) (fun w37 g37 => ?_)
      have g := g.trans (g37)
      replace B1 := B1.grow (g37)
      replace B2 := B2.grow (g37)
      try have hk5 := hk5.grow (g37)
      try have hO := hO.grow (g37)
      refine sr_pu rfl (fun _ => rd_move (ev_t rfl)) ?_
      refine sr_pu rfl (fun _ => rd_extract (ev_t rfl) rfl) ?_
      refine sr_pu rfl (fun _ => rd_extract (ev_t rfl) rfl) ?_
      refine sr_pu rfl (fun _ => rd_extract (ev_t rfl) rfl) ?_
      refine sr_pu rfl (fun _ => rd_assign (ev_t rfl)) ?_
      refine sr_pu rfl (fun _ => rd_assign (ev_t rfl)) ?_
      refine sr_pu rfl (fun _ => rd_assign (ev_t rfl)) ?_
      refine sr_sub [(1, _, _), (2, _, _), (6, _, _), (8, _, _)] (sub_cons rfl (sub_cons rfl (sub_cons rfl (sub_cons rfl (sub_nil _))))) ?_
      refine sr_nil (hK9 _ _ ?_)
      refine sc_seq fun K10 hK10 => ?_
      refine sc_seq fun K11 hK11 => ?_
      refine sc_text [3, 3, 3, 3, 3] ?_
      refine sr_pu rfl (fun _ => rd_move (ev_t rfl)) ?_
      refine sr_pu rfl (fun _ => rd_move (ev_t rfl)) ?_
      refine sr_pug rfl rfl rfl (fun _ => rd_move (ev_t rfl)) ?_
      refine sr_pug rfl rfl rfl (fun _ => rd_eq (ev_u rfl id) ev_c) ?_
      refine sr_pu rfl (fun _ => rd_pick_and (ev_t rfl) (ev_u rfl id)) ?_
      refine sr_sub [(1, _, _), (2, _, _), (8, _, _), (45, _, _)] (sub_cons rfl (sub_cons rfl (sub_cons rfl (sub_cons rfl (sub_nil _))))) ?_
      refine sr_nil (hK11 _ _ ?_)
      refine sc_cond (ev_t rfl) (fun h4 => ?_) (fun h4 => ?_)
      · (try simp only [bsimp] at h4)
        refine sc_seq fun K12 hK12 => ?_
        refine sc_text [3, 0, 3, 0, 1, 2] ?_
        have hv0 := Bool.and_eq_true_iff.1 h4
        have hT : foldT t = foldT (kidAt t 1) := by
          rw [hr0.1] at hv0; rw [hr0.2 hv0.1] at hv0
          rw [hfd, hv0.1, hv0.2, cond_true, cond_true]; exact getD_fold (by omega)
        refine sr_pu rfl (fun _ => rd_field fo_api_Node_4 (ev_t rfl)) ?_
        refine sr_rd rfl (rd_load one_sl_api_Node (ev_t rfl) (fun _ => B1.at_ rfl)) ?_
        refine sr_pu rfl (fun _ => rd_idxq el_sl_api_Node (ev_t rfl) ev_c (fun _ => by omega) (fun _ => (h1x (by omega)).1)) ?_
        refine sr_rd rfl (rd_loads agg_api_Node (ev_t rfl) rfl (fun _ => (h1x (by omega)).2.1.grow g)) ?_
        refine sr_call rfl (rc_call go_r07_folded ev_f (args_cons (ev_t rfl) (args_nil)) rfl) (hfi 1 (by omega) _ D _ ((h1x (by omega)).2.2.grow g)) ?_
        rintro v50 w50 ⟨⟨p5, c5, rfl, hk5⟩, g50⟩
        refine ⟨fun _ => g50, ?_⟩
        have hlow := g.size
        have hB2 := B2.lt
        have g := g.trans g50
        have hk5 := hk5.lt
        replace B1 := B1.grow (g50)
        replace B2 := B2.grow (g50)
        try have hk5 := hk5.grow (g50)
        try have hO := hO.grow (g50)
        refine sr_store_all rfl sz_api_Node (ev_t rfl) (ev_t rfl) rfl rfl B2 rfl rfl ?_
        intro wS2 hgS2 hzS2
        clear B2
        intro B2
        replace B1 := B1.keep hgS2 (by intro h; injection h with h; first | exact x2_1 h.symm | exact x1_2 h | omega)
        have g := g_only g hgS2 (by intro k hk; injection hk with hk; omega)
        try have hk5 := hk5.keep hgS2 (fun b hb _ he => by injection he with he; have hb := hb.1; omega)
        try have hO := hO.keep hgS2 (by simp [Dx])
        refine sr_sub [(1, _, _), (2, _, _), (8, _, _)] (sub_cons rfl (sub_cons rfl (sub_cons rfl (sub_nil _)))) ?_
        refine sr_nil (hK12 _ _ ?_)
        refine sc_ret (t_retv1 rfl (evr_c rfl agg_api_Node rfl (by first | exact B1.row | exact B2.row) (evr_nil)) ?_)
        first
          | exact ⟨⟨_, _, by rw [hT], by rw [hT]; exact hk5.mono fun b hb _ => Nat.le_trans hlow hb.1⟩, g⟩
          | exact ⟨by rw [hT]; exact retNd_leaf _ _ _ rfl, g⟩
          | exact ⟨by rw [hT]; exact retNd_kd (hO.kd fun b hb => hb.1), g⟩
      (try simp only [bsimp] at h4)
      refine sc_skip (hK10 _ _ ?_)
      refine sc_sub [(1, _, _), (2, _, _), (8, _, _)] (sub_cons rfl (sub_cons rfl (sub_cons rfl (sub_nil _)))) ?_
      refine sc_seq fun K12 hK12 => ?_
      refine sc_seq fun K13 hK13 => ?_
      refine sc_text [3, 3, 3, 0, 3, 3, 0, 3, 3] ?_
      have hn1 := h4
      refine sr_pu rfl (fun _ => rd_move (ev_t rfl)) ?_
      refine sr_pu rfl (fun _ => rd_move (ev_t rfl)) ?_
      refine sr_pug rfl rfl rfl (fun _ => rd_field fo_api_Node_4 (ev_t rfl)) ?_
      refine sr_rdg rfl rfl rfl (rd_load one_sl_api_Node (ev_u rfl id) (fun _ => B1.at_ rfl)) ?_
      refine sr_pug rfl rfl rfl (fun _ => rd_idxq el_sl_api_Node (ev_u rfl id) ev_c (fun _ => by omega) (fun _ => (h2x (by omega)).1)) ?_
      refine sr_pug rfl rfl rfl (fun _ => rd_field fo_api_Node_0 (ev_u rfl id)) ?_
      refine sr_rdg rfl rfl rfl (rd_load one_int (ev_u rfl id) (fun _ => ((h2x (by omega)).2.1.grow g) 0 _ rfl)) ?_
      refine sr_pug rfl rfl rfl (fun _ => rd_eq (ev_u rfl id) ev_c) ?_
      refine sr_pu rfl (fun _ => rd_pick_and (ev_t rfl) (ev_u rfl id)) ?_
      refine sr_sub [(1, _, _), (2, _, _), (8, _, _), (59, _, _)] (sub_cons rfl (sub_cons rfl (sub_cons rfl (sub_cons rfl (sub_nil _))))) ?_
      refine sr_nil (hK13 _ _ ?_)
      refine sc_cond (ev_t rfl) (fun h5 => ?_) (fun h5 => ?_)
      · (try simp only [bsimp] at h5)
        refine sc_seq fun K14 hK14 => ?_
        refine sc_text [3, 0, 3, 2] ?_
        have hv0 := Bool.and_eq_true_iff.1 h5
        have hT : foldT t = .mk 10 [] 0 t.pos [] ty0 0 0 := by
          rw [hr0.1] at hv0 hn1; rw [hr0.2 hv0.1, hv0.1, Bool.true_and] at hn1
          rw [hfd, hv0.1, hn1, hv0.2, cond_true, cond_true, cond_false]
        refine sr_pu rfl (fun _ => rd_field fo_api_Node_3 (ev_t rfl)) ?_
        refine sr_rd rfl (rd_load one_int (ev_t rfl) (fun _ => B1.at_ rfl)) ?_
        refine sr_pu rfl (fun _ => rd_build [_, _, _, _, _, _, _, _, _] ze_api_Node rfl pl_api_Node (parts_cons ev_c (parts_cons (ev_t rfl) (parts_nil))) rfl) ?_
        refine sr_store_all rfl sz_api_Node (ev_t rfl) (ev_t rfl) rfl rfl B2 rfl rfl ?_
        intro wS2 hgS2 hzS2
        clear B2
        intro B2
        replace B1 := B1.keep hgS2 (by intro h; injection h with h; first | exact x2_1 h.symm | exact x1_2 h | omega)
        have g := g_only g hgS2 (by intro k hk; injection hk with hk; omega)
        try have hk5 := hk5.keep hgS2 (fun b hb _ he => by injection he with he; have hb := hb.1; omega)
        try have hO := hO.keep hgS2 (by simp [Dx])
        refine sr_sub [(1, _, _), (2, _, _), (8, _, _)] (sub_cons rfl (sub_cons rfl (sub_cons rfl (sub_nil _)))) ?_
        refine sr_nil (hK14 _ _ ?_)
        refine sc_ret (t_retv1 rfl (evr_c rfl agg_api_Node rfl (by first | exact B1.row | exact B2.row) (evr_nil)) ?_)
        first
          | exact ⟨⟨_, _, by rw [hT], by rw [hT]; exact hk5.mono fun b hb _ => Nat.le_trans hlow hb.1⟩, g⟩
          | exact ⟨by rw [hT]; exact retNd_leaf _ _ _ rfl, g⟩
          | exact ⟨by rw [hT]; exact retNd_kd (hO.kd fun b hb => hb.1), g⟩
      (try simp only [bsimp] at h5)
      refine sc_skip (hK12 _ _ ?_)
      refine sc_sub [(1, _, _), (2, _, _), (8, _, _)] (sub_cons rfl (sub_cons rfl (sub_cons rfl (sub_nil _)))) ?_
      refine sc_seq fun K14 hK14 => ?_
      refine sc_text [3] ?_
      have hn2 := h5
      refine sr_pu rfl (fun _ => rd_move (ev_t rfl)) ?_
      refine sr_sub [(1, _, _), (2, _, _), (63, _, _)] (sub_cons rfl (sub_cons rfl (sub_cons rfl (sub_nil _)))) ?_
      refine sr_nil (hK14 _ _ ?_)
      refine sc_cond (ev_t rfl) (fun h6 => ?_) (fun h6 => ?_)
      · (try simp only [bsimp] at h6)
        refine sc_seq fun K15 hK15 => ?_
        refine sc_text [3, 0, 3, 0, 1, 2] ?_
        have hv0 := h6
        have hT : foldT t = foldT (kidAt t 2) := by
          rw [hr0.1] at hv0 hn1 hn2; rw [hr0.2 hv0, hv0, Bool.true_and] at hn1; rw [hv0, Bool.true_and] at hn2
          rw [hfd, hv0, hn1, hn2, cond_true, cond_false, cond_false]; exact getD_fold (by omega)
        refine sr_pu rfl (fun _ => rd_field fo_api_Node_4 (ev_t rfl)) ?_
        refine sr_rd rfl (rd_load one_sl_api_Node (ev_t rfl) (fun _ => B1.at_ rfl)) ?_
        refine sr_pu rfl (fun _ => rd_idxq el_sl_api_Node (ev_t rfl) ev_c (fun _ => by omega) (fun _ => (h2x (by omega)).1)) ?_
        refine sr_rd rfl (rd_loads agg_api_Node (ev_t rfl) rfl (fun _ => (h2x (by omega)).2.1.grow g)) ?_
        refine sr_call rfl (rc_call go_r07_folded ev_f (args_cons (ev_t rfl) (args_nil)) rfl) (hfi 2 (by omega) _ D _ ((h2x (by omega)).2.2.grow g)) ?_
        rintro v68 w68 ⟨⟨p5, c5, rfl, hk5⟩, g68⟩
        refine ⟨fun _ => g68, ?_⟩
        have hlow := g.size
        have hB2 := B2.lt
        have g := g.trans g68
        have hk5 := hk5.lt
        replace B1 := B1.grow (g68)
        replace B2 := B2.grow (g68)
        try have hk5 := hk5.grow (g68)
        try have hO := hO.grow (g68)
        refine sr_store_all rfl sz_api_Node (ev_t rfl) (ev_t rfl) rfl rfl B2 rfl rfl ?_
        intro wS2 hgS2 hzS2
        clear B2
        intro B2
        replace B1 := B1.keep hgS2 (by intro h; injection h with h; first | exact x2_1 h.symm | exact x1_2 h | omega)
        have g := g_only g hgS2 (by intro k hk; injection hk with hk; omega)
        try have hk5 := hk5.keep hgS2 (fun b hb _ he => by injection he with he; have hb := hb.1; omega)
        try have hO := hO.keep hgS2 (by simp [Dx])
        refine sr_sub [(1, _, _), (2, _, _)] (sub_cons rfl (sub_cons rfl (sub_nil _))) ?_
        refine sr_nil (hK15 _ _ ?_)
        refine sc_ret (t_retv1 rfl (evr_c rfl agg_api_Node rfl (by first | exact B1.row | exact B2.row) (evr_nil)) ?_)
        first
          | exact ⟨⟨_, _, by rw [hT], by rw [hT]; exact hk5.mono fun b hb _ => Nat.le_trans hlow hb.1⟩, g⟩
          | exact ⟨by rw [hT]; exact retNd_leaf _ _ _ rfl, g⟩
          | exact ⟨by rw [hT]; exact retNd_kd (hO.kd fun b hb => hb.1), g⟩
      (try simp only [bsimp] at h6)
      refine sc_skip (hK7 _ _ ?_)
      refine sc_sub [(1, _, _), (2, _, _)] (sub_cons rfl (sub_cons rfl (sub_nil _))) ?_
      refine sc_seq fun K15 hK15 => ?_
      refine sc_text [3, 0, 3] ?_
      have hT : foldT t = Nd.mk t.kind t.text t.num t.pos (t.kids.map foldT) t.ty t.ref t.up := by
        rw [← hself]
        have hz := h6
        refine fold_o (by first | exact hnl | exact fold_n hnl rfl) ?_
        first
          | (rw [hr0.1] at hz; rw [hz, Bool.and_false])
          | (rw [hz]; rfl)
      refine sr_pu rfl (fun _ => rd_field fo_api_Node_4 (ev_t rfl)) ?_
      refine sr_rd rfl (rd_load one_sl_api_Node (ev_t rfl) (fun _ => B1.at_ rfl)) ?_
      refine sr_pu rfl (fun _ => rd_assign (ev_t rfl)) ?_
      refine sr_sub [(1, _, _), (2, _, _), (9, _, _)] (sub_cons rfl (sub_cons rfl (sub_cons rfl (sub_nil _)))) ?_
      refine sr_nil (hK15 _ _ ?_)
      refine sc_seq fun K16 hK16 => ?_
      refine sc_text [3, 2] ?_
      refine sr_pu rfl (fun _ => rd_field fo_api_Node_4 (ev_t rfl)) ?_
      refine sr_store_one rfl sz_sl_api_Node (ev_t rfl) ev_c rfl B1 rfl rfl ?_
      intro wS2 hgS2 hzS2
      clear B1
      intro B1
      replace B2 := B2.keep hgS2 (by intro h; injection h with h; first | exact x1_2 h.symm | exact x2_1 h | omega)
      have g := g_only g hgS2 (by intro k hk; injection hk with hk; omega)
      refine sr_sub [(1, _, _), (2, _, _), (9, _, _)] (sub_cons rfl (sub_cons rfl (sub_cons rfl (sub_nil _)))) ?_
      refine sr_nil (hK16 _ _ ?_)
      refine sc_seq fun K17 hK17 => ?_
      refine sc_seq fun K18 hK18 => ?_
      refine sc_text [3] ?_
      refine sr_pu rfl (fun _ => rd_assign ev_c) ?_
      refine sr_nil (hK18 _ _ ?_)
      refine sc_block ?_
      refine sc_loop3 (fun (i : Nat) u1 => (i ≤ t.kids.length ∧ ∃ s, Blk u1 b1 ty_api_Node (ndCells t s) ∧ OwnK ty_api_Node (Dx w.heap.size [b1, b2]) w.heap.size u1 ((t.kids.take i).map foldT) s) ∧ G w u1) _ [(1, True, _), (2, True, _), (9, True, _)] (fun (i : Nat) => [(10, True, .int .i64 i)]) (fun (i : Nat) => t.kids.length - i) (0) ⟨⟨Nat.zero_le _, _, B1, ownK_nil _ _ _ _⟩, g⟩ (andE_mk (blkE B2) (nilE_mk _)) (sub_cons rfl (sub_cons rfl (sub_cons rfl (sub_cons rfl (sub_nil _))))) ?_
      clear B1 B2
      rintro i u1 ⟨hI1, gl1⟩ ⟨B2, _⟩
      replace B2 : Blk _ _ _ _ := B2
      have g := gl1
      obtain ⟨hi, s, B1, hO⟩ := hI1
      obtain ⟨sa, sc, rfl⟩ := hO.slice
      refine sc_seq fun K19 hK19 => ?_
      refine sc_seq fun K20 hK20 => ?_
      refine sc_text [3, 3, 3, 3] ?_
      refine sr_pu rfl (fun _ => rd_move (ev_t rfl)) ?_
      refine sr_pu rfl (fun _ => rd_move (ev_t rfl)) ?_
      refine sr_pu rfl (fun _ => rd_len el_sl_api_Node (ev_t rfl)) ?_
      refine sr_pu rfl (fun _ => rd_lt (ev_t rfl) (ev_t rfl)) ?_
      refine sr_sub [(1, _, _), (2, _, _), (9, _, _), (10, _, _), (75, _, _)] (sub_cons rfl (sub_cons rfl (sub_cons rfl (sub_cons rfl (sub_cons rfl (sub_nil _)))))) ?_
      refine sr_nil (hK20 _ _ ?_)
      refine sc_cond (ev_t rfl) (fun h7 => ?_) (fun h7 => ?_)
      · (try simp only [bsimp] at h7)
        refine sc_skip (hK19 _ _ ?_)
        refine sc_sub [(1, _, _), (2, _, _), (9, _, _), (10, _, _)] (sub_cons rfl (sub_cons rfl (sub_cons rfl (sub_cons rfl (sub_nil _))))) ?_
        refine sc_seq fun K21 hK21 => ?_
        refine sc_block ?_
        refine sc_draw [3, 0, 3, 3, 3, 0, 1, 1, 2, 3, 2] [true, true, true, true, true, true, true, true, true, true, true] [0, 1, 0, 0, 12, 28, 60, 124, 255, 511, 1023] mix (by kernel_rfl) ?_
        have g := g.trans (G.drew _)
        replace B1 := B1.grow (G.drew _)
        replace B2 := B2.grow (G.drew _)
        try have hk5 := hk5.grow (G.drew _)
        try have hO := hO.grow (G.drew _)
        have h2 : i < t.kids.length := by have hz := h7; simp only [decide_eq_true_eq] at hz; omega
        obtain ⟨b, o, rfl, hD, xs, hR, hX⟩ := hks (by omega)
        obtain ⟨p', c', hcell, hkid⟩ := kd_at hR hX h2
        have hck := count_kid h2
        have hkl := kids_le t.kids[i]
        have hu := g.size
        have hB1lt := B1.lt
        have hB2lt := B2.lt
        have hOlt := hO.lt
        refine sr_pu rfl (fun _ => rd_field fo_api_Node_4 (ev_t rfl)) ?_
        refine sr_rd rfl (rd_load one_sl_api_Node (ev_t rfl) (fun _ => B1.at_ rfl)) ?_
        refine sr_pu rfl (fun _ => rd_move (ev_t rfl)) ?_
        refine sr_pu rfl (fun _ => rd_move (ev_t rfl)) ?_
        refine sr_pu rfl (fun _ => rd_idx el_sl_api_Node (ev_t rfl) (ev_t rfl) (fun _ => by omega)) ?_
        refine sr_rd rfl (rd_loads agg_api_Node (ev_t rfl) rfl (fun _ => hcell.grow g)) ?_
        refine sr_call rfl (rc_call go_r07_folded ev_f (args_cons (ev_t rfl) (args_nil)) rfl) (hf _ (List.getElem_mem h2) _ _ _ (hkid.grow g)) ?_
        rintro v84 w84 ⟨⟨p5, c5, rfl, hk5⟩, g84⟩
        refine ⟨fun _ => g84, ?_⟩
        have g := g.trans g84
        replace B1 := B1.grow (g84)
        replace B2 := B2.grow (g84)
        try have hk5 := hk5.grow (g84)
        try have hO := hO.grow (g84)
        refine sr_buildSlice [_, _, _, _, _, _, _, _, _] rfl el_sl_api_Node ze_api_Node (parts_cons (ev_t rfl) (parts_nil)) rfl rfl ?_
        intro b85 w85 N85
        have x85_1 := N85.ne B1
        have x85_2 := N85.ne B2
        have l85 := N85.ge g
        have g := g.trans (N85.g)
        replace B1 := B1.grow (N85.g)
        replace B2 := B2.grow (N85.g)
        try have hk5 := hk5.grow (N85.g)
        try have hO := hO.grow (N85.g)
        have B85 := N85.blk
        have hOo := hO
        refine sr_appendK rfl el_sl_api_Node ze_api_Node rfl (ev_t rfl) hO (ev_t rfl) rfl B85.row (krow_one (hk5.mono fun k hk _ => ⟨⟨by have hk : _ ≤ k := hk; omega, by have hk : _ ≤ k := hk; have := hB1lt; have := hB2lt; simp; omega⟩, fun he => by have := hOlt k he.symm; have hk : _ ≤ k := hk; omega⟩)) (by simp; omega) (by have := g.size; omega) ⟨by have := g.size; omega, by have q1 := B1.lt; have q2 := B2.lt; simp; omega⟩ ?_
        intro a86 c86 w86 hO hg86
        replace B1 := B1.keep hg86 (hOo.ne (by simp [Dx]))
        replace B2 := B2.keep hg86 (hOo.ne (by simp [Dx]))
        have g := g_only g hg86 (fun k hk => hOo.ge k hk)
        refine sr_pu rfl (fun _ => rd_field fo_api_Node_4 (ev_t rfl)) ?_
        refine sr_store_one rfl sz_sl_api_Node (ev_t rfl) (ev_t rfl) rfl B1 rfl rfl ?_
        intro wS3 hgS3 hzS3
        clear B1
        intro B1
        replace B2 := B2.keep hgS3 (by intro h; injection h with h; first | exact x1_2 h.symm | exact x2_1 h | omega)
        have g := g_only g hgS3 (by intro k hk; injection hk with hk; omega)
        have hO := hO.keep hgS3 (by simp [Dx])
        refine sr_sub [(1, _, _), (2, _, _), (9, _, _), (10, _, _)] (sub_cons rfl (sub_cons rfl (sub_cons rfl (sub_cons rfl (sub_nil _))))) ?_
        refine sr_nil (hK21 _ _ ?_)
        refine sc_text [3, 3, 3] ?_
        refine sr_pu rfl (fun _ => rd_move (ev_t rfl)) ?_
        refine sr_pu rfl (fun _ => rd_add (ev_t rfl) ev_c (fun _ => by omega)) ?_
        refine sr_pu rfl (fun _ => rd_assign (ev_t rfl)) ?_
        refine sr_sub [(10, _, _), (1, _, _), (2, _, _), (9, _, _)] (sub_cons rfl (sub_cons rfl (sub_cons rfl (sub_cons rfl (sub_nil _))))) ?_
        refine sr_nil (fun a ha => ?_)
        exact ⟨i + 1, ha, ⟨⟨h2, _, B1, by rw [take_step h2, List.map_append]; exact hO⟩, g⟩, (andE_mk (blkE B2) (nilE_mk _)), by omega⟩
      (try simp only [bsimp] at h7)
      refine sc_exit rfl (hK17 _ _ ?_)
      refine sc_sub [(1, _, _), (2, _, _)] (sub_cons rfl (sub_cons rfl (sub_nil _))) ?_
      refine sc_seq fun K21 hK21 => ?_
      refine sc_text [0, 2] ?_
      have h2 : i = t.kids.length := by have hz := h7; simp only [decide_eq_false_iff_not] at hz; omega
      subst h2
      rw [List.take_length] at hO B1
      refine sr_rd rfl (rd_loads agg_api_Node (ev_t rfl) rfl (fun _ => B1.row)) ?_
      refine sr_store_all rfl sz_api_Node (ev_t rfl) (ev_t rfl) rfl rfl B2 rfl rfl ?_
      intro wS3 hgS3 hzS3
      clear B2
      intro B2
      replace B1 := B1.keep hgS3 (by intro h; injection h with h; first | exact x2_1 h.symm | exact x1_2 h | omega)
      have g := g_only g hgS3 (by intro k hk; injection hk with hk; omega)
      try have hk5 := hk5.keep hgS3 (fun b hb _ he => by injection he with he; have hb := hb.1; omega)
      try have hO := hO.keep hgS3 (by simp [Dx])
      refine sr_nil (hK21 _ _ ?_)
      refine sc_ret (t_retv1 rfl (evr_c rfl agg_api_Node rfl (by first | exact B1.row | exact B2.row) (evr_nil)) ?_)
      first
        | exact ⟨⟨_, _, by rw [hT], by rw [hT]; exact hk5.mono fun b hb _ => Nat.le_trans hlow hb.1⟩, g⟩
        | exact ⟨by rw [hT]; exact retNd_leaf _ _ _ rfl, g⟩
        | exact ⟨by rw [hT]; exact retNd_kd (hO.kd fun b hb => hb.1), g⟩
    (try simp only [bsimp] at h3)
    refine sc_skip (hK7 _ _ ?_)
    refine sc_sub [(1, _, _), (2, _, _)] (sub_cons rfl (sub_cons rfl (sub_nil _))) ?_
    refine sc_seq fun K9 hK9 => ?_
    refine sc_text [3, 0, 3] ?_
    have hT : foldT t = Nd.mk t.kind t.text t.num t.pos (t.kids.map foldT) t.ty t.ref t.up := by
      rw [← hself]
      have hz := h3
      refine fold_o (by first | exact hnl | exact fold_n hnl rfl) ?_
      first
        | (rw [hr0.1] at hz; rw [hz, Bool.and_false])
        | (rw [hz]; rfl)
    refine sr_pu rfl (fun _ => rd_field fo_api_Node_4 (ev_t rfl)) ?_
    refine sr_rd rfl (rd_load one_sl_api_Node (ev_t rfl) (fun _ => B1.at_ rfl)) ?_
    refine sr_pu rfl (fun _ => rd_assign (ev_t rfl)) ?_
    refine sr_sub [(1, _, _), (2, _, _), (9, _, _)] (sub_cons rfl (sub_cons rfl (sub_cons rfl (sub_nil _)))) ?_
    refine sr_nil (hK9 _ _ ?_)
    refine sc_seq fun K10 hK10 => ?_
    refine sc_text [3, 2] ?_
    refine sr_pu rfl (fun _ => rd_field fo_api_Node_4 (ev_t rfl)) ?_
    refine sr_store_one rfl sz_sl_api_Node (ev_t rfl) ev_c rfl B1 rfl rfl ?_
    intro wS2 hgS2 hzS2
    clear B1
    intro B1
    replace B2 := B2.keep hgS2 (by intro h; injection h with h; first | exact x1_2 h.symm | exact x2_1 h | omega)
    have g := g_only g hgS2 (by intro k hk; injection hk with hk; omega)
    refine sr_sub [(1, _, _), (2, _, _), (9, _, _)] (sub_cons rfl (sub_cons rfl (sub_cons rfl (sub_nil _)))) ?_
    refine sr_nil (hK10 _ _ ?_)
    refine sc_seq fun K11 hK11 => ?_
    refine sc_seq fun K12 hK12 => ?_
    refine sc_text [3] ?_
    refine sr_pu rfl (fun _ => rd_assign ev_c) ?_
    refine sr_nil (hK12 _ _ ?_)
    refine sc_block ?_
    refine sc_loop3 (fun (i : Nat) u1 => (i ≤ t.kids.length ∧ ∃ s, Blk u1 b1 ty_api_Node (ndCells t s) ∧ OwnK ty_api_Node (Dx w.heap.size [b1, b2]) w.heap.size u1 ((t.kids.take i).map foldT) s) ∧ G w u1) _ [(1, True, _), (2, True, _), (9, True, _)] (fun (i : Nat) => [(10, True, .int .i64 i)]) (fun (i : Nat) => t.kids.length - i) (0) ⟨⟨Nat.zero_le _, _, B1, ownK_nil _ _ _ _⟩, g⟩ (andE_mk (blkE B2) (nilE_mk _)) (sub_cons rfl (sub_cons rfl (sub_cons rfl (sub_cons rfl (sub_nil _))))) ?_
    clear B1 B2
    rintro i u1 ⟨hI1, gl1⟩ ⟨B2, _⟩
    replace B2 : Blk _ _ _ _ := B2
    have g := gl1
    obtain ⟨hi, s, B1, hO⟩ := hI1
    obtain ⟨sa, sc, rfl⟩ := hO.slice
    refine sc_seq fun K13 hK13 => ?_
    refine sc_seq fun K14 hK14 => ?_
    refine sc_text [3, 3, 3, 3] ?_
    refine sr_pu rfl (fun _ => rd_move (ev_t rfl)) ?_
    refine sr_pu rfl (fun _ => rd_move (ev_t rfl)) ?_
    refine sr_pu rfl (fun _ => rd_len el_sl_api_Node (ev_t rfl)) ?_
    refine sr_pu rfl (fun _ => rd_lt (ev_t rfl) (ev_t rfl)) ?_
    refine sr_sub [(1, _, _), (2, _, _), (9, _, _), (10, _, _), (75, _, _)] (sub_cons rfl (sub_cons rfl (sub_cons rfl (sub_cons rfl (sub_cons rfl (sub_nil _)))))) ?_
    refine sr_nil (hK14 _ _ ?_)
    refine sc_cond (ev_t rfl) (fun h4 => ?_) (fun h4 => ?_)
    · (try simp only [bsimp] at h4)
      refine sc_skip (hK13 _ _ ?_)
      refine sc_sub [(1, _, _), (2, _, _), (9, _, _), (10, _, _)] (sub_cons rfl (sub_cons rfl (sub_cons rfl (sub_cons rfl (sub_nil _))))) ?_
      refine sc_seq fun K15 hK15 => ?_
      refine sc_block ?_
      refine sc_draw [3, 0, 3, 3, 3, 0, 1, 1, 2, 3, 2] [true, true, true, true, true, true, true, true, true, true, true] [0, 1, 0, 0, 12, 28, 60, 124, 255, 511, 1023] mix (by kernel_rfl) ?_
      have g := g.trans (G.drew _)
      replace B1 := B1.grow (G.drew _)
      replace B2 := B2.grow (G.drew _)
      try have hk5 := hk5.grow (G.drew _)
      try have hO := hO.grow (G.drew _)
      have h2 : i < t.kids.length := by have hz := h4; simp only [decide_eq_true_eq] at hz; omega
      obtain ⟨b, o, rfl, hD, xs, hR, hX⟩ := hks (by omega)
      obtain ⟨p', c', hcell, hkid⟩ := kd_at hR hX h2
      have hck := count_kid h2
      have hkl := kids_le t.kids[i]
      have hu := g.size
      have hB1lt := B1.lt
      have hB2lt := B2.lt
      have hOlt := hO.lt
      refine sr_pu rfl (fun _ => rd_field fo_api_Node_4 (ev_t rfl)) ?_
      refine sr_rd rfl (rd_load one_sl_api_Node (ev_t rfl) (fun _ => B1.at_ rfl)) ?_
      refine sr_pu rfl (fun _ => rd_move (ev_t rfl)) ?_
      refine sr_pu rfl (fun _ => rd_move (ev_t rfl)) ?_
      refine sr_pu rfl (fun _ => rd_idx el_sl_api_Node (ev_t rfl) (ev_t rfl) (fun _ => by omega)) ?_
      refine sr_rd rfl (rd_loads agg_api_Node (ev_t rfl) rfl (fun _ => hcell.grow g)) ?_
      refine sr_call rfl (rc_call go_r07_folded ev_f (args_cons (ev_t rfl) (args_nil)) rfl) (hf _ (List.getElem_mem h2) _ _ _ (hkid.grow g)) ?_
      rintro v84 w84 ⟨⟨p5, c5, rfl, hk5⟩, g84⟩
      refine ⟨fun _ => g84, ?_⟩
      have g := g.trans g84
      replace B1 := B1.grow (g84)
      replace B2 := B2.grow (g84)
      try have hk5 := hk5.grow (g84)
      try have hO := hO.grow (g84)
      refine sr_buildSlice [_, _, _, _, _, _, _, _, _] rfl el_sl_api_Node ze_api_Node (parts_cons (ev_t rfl) (parts_nil)) rfl rfl ?_
      intro b85 w85 N85
      have x85_1 := N85.ne B1
      have x85_2 := N85.ne B2
      have l85 := N85.ge g
      have g := g.trans (N85.g)
      replace B1 := B1.grow (N85.g)
      replace B2 := B2.grow (N85.g)
      try have hk5 := hk5.grow (N85.g)
      try have hO := hO.grow (N85.g)
      have B85 := N85.blk
      have hOo := hO
      refine sr_appendK rfl el_sl_api_Node ze_api_Node rfl (ev_t rfl) hO (ev_t rfl) rfl B85.row (krow_one (hk5.mono fun k hk _ => ⟨⟨by have hk : _ ≤ k := hk; omega, by have hk : _ ≤ k := hk; have := hB1lt; have := hB2lt; simp; omega⟩, fun he => by have := hOlt k he.symm; have hk : _ ≤ k := hk; omega⟩)) (by simp; omega) (by have := g.size; omega) ⟨by have := g.size; omega, by have q1 := B1.lt; have q2 := B2.lt; simp; omega⟩ ?_
      intro a86 c86 w86 hO hg86
      replace B1 := B1.keep hg86 (hOo.ne (by simp [Dx]))
      replace B2 := B2.keep hg86 (hOo.ne (by simp [Dx]))
      have g := g_only g hg86 (fun k hk => hOo.ge k hk)
      refine sr_pu rfl (fun _ => rd_field fo_api_Node_4 (ev_t rfl)) ?_
      refine sr_store_one rfl sz_sl_api_Node (ev_t rfl) (ev_t rfl) rfl B1 rfl rfl ?_
      intro wS3 hgS3 hzS3
      clear B1
      intro B1
      replace B2 := B2.keep hgS3 (by intro h; injection h with h; first | exact x1_2 h.symm | exact x2_1 h | omega)
      have g := g_only g hgS3 (by intro k hk; injection hk with hk; omega)
      have hO := hO.keep hgS3 (by simp [Dx])
      refine sr_sub [(1, _, _), (2, _, _), (9, _, _), (10, _, _)] (sub_cons rfl (sub_cons rfl (sub_cons rfl (sub_cons rfl (sub_nil _))))) ?_
      refine sr_nil (hK15 _ _ ?_)
      refine sc_text [3, 3, 3] ?_
      refine sr_pu rfl (fun _ => rd_move (ev_t rfl)) ?_
      refine sr_pu rfl (fun _ => rd_add (ev_t rfl) ev_c (fun _ => by omega)) ?_
      refine sr_pu rfl (fun _ => rd_assign (ev_t rfl)) ?_
      refine sr_sub [(10, _, _), (1, _, _), (2, _, _), (9, _, _)] (sub_cons rfl (sub_cons rfl (sub_cons rfl (sub_cons rfl (sub_nil _))))) ?_
      refine sr_nil (fun a ha => ?_)
      exact ⟨i + 1, ha, ⟨⟨h2, _, B1, by rw [take_step h2, List.map_append]; exact hO⟩, g⟩, (andE_mk (blkE B2) (nilE_mk _)), by omega⟩
    (try simp only [bsimp] at h4)
    refine sc_exit rfl (hK11 _ _ ?_)
    refine sc_sub [(1, _, _), (2, _, _)] (sub_cons rfl (sub_cons rfl (sub_nil _))) ?_
    refine sc_seq fun K15 hK15 => ?_
    refine sc_text [0, 2] ?_
    have h2 : i = t.kids.length := by have hz := h4; simp only [decide_eq_false_iff_not] at hz; omega
    subst h2
    rw [List.take_length] at hO B1
    refine sr_rd rfl (rd_loads agg_api_Node (ev_t rfl) rfl (fun _ => B1.row)) ?_
    refine sr_store_all rfl sz_api_Node (ev_t rfl) (ev_t rfl) rfl rfl B2 rfl rfl ?_
    intro wS3 hgS3 hzS3
    clear B2
    intro B2
    replace B1 := B1.keep hgS3 (by intro h; injection h with h; first | exact x2_1 h.symm | exact x1_2 h | omega)
    have g := g_only g hgS3 (by intro k hk; injection hk with hk; omega)
    try have hk5 := hk5.keep hgS3 (fun b hb _ he => by injection he with he; have hb := hb.1; omega)
    try have hO := hO.keep hgS3 (by simp [Dx])
    refine sr_nil (hK15 _ _ ?_)
    refine sc_ret (t_retv1 rfl (evr_c rfl agg_api_Node rfl (by first | exact B1.row | exact B2.row) (evr_nil)) ?_)
    first
      | exact ⟨⟨_, _, by rw [hT], by rw [hT]; exact hk5.mono fun b hb _ => Nat.le_trans hlow hb.1⟩, g⟩
      | exact ⟨by rw [hT]; exact retNd_leaf _ _ _ rfl, g⟩
      | exact ⟨by rw [hT]; exact retNd_kd (hO.kd fun b hb => hb.1), g⟩
  have hnl : (valC t).2 = false := by
    cases hv : (valC t).2
    · rfl
    · rw [valC_expr t hv] at h1; cases h1
  refine sc_skip (hK2 _ _ ?_)
  refine sc_sub [(1, _, _), (2, _, _)] (sub_cons rfl (sub_cons rfl (sub_nil _))) ?_
  refine sc_seq fun K16 hK16 => ?_
  refine sc_seq fun K17 hK17 => ?_
  refine sc_text [3, 0, 3] ?_
  refine sr_pu rfl (fun _ => rd_field fo_api_Node_0 (ev_t rfl)) ?_
  refine sr_rd rfl (rd_load one_int (ev_t rfl) (fun _ => B1.at_ rfl)) ?_
  refine sr_pu rfl (fun _ => rd_eq (ev_t rfl) ev_c) ?_
  refine sr_sub [(1, _, _), (2, _, _), (31, _, _)] (sub_cons rfl (sub_cons rfl (sub_cons rfl (sub_nil _)))) ?_
  refine sr_nil (hK17 _ _ ?_)
  refine sc_cond (ev_t rfl) (fun h5 => ?_) (fun h5 => ?_)
  · (try simp only [bsimp] at h5)
    refine sc_seq fun K18 hK18 => ?_
    refine sc_text [3, 0, 3, 0, 1, 3, 3, 3, 3, 3, 3, 3] ?_
    have hk18 : t.kind = 18 := of_decide_eq_true h5
    have hl3 := hl18 hk18
    have hex := he18 hk18
    have hr0 := refC_val _ hex
    have hfd := fold_if hk18 (by first | exact hnl | exact fold_n hnl rfl)
    refine sr_pu rfl (fun _ => rd_field fo_api_Node_4 (ev_t rfl)) ?_
    refine sr_rd rfl (rd_load one_sl_api_Node (ev_t rfl) (fun _ => B1.at_ rfl)) ?_
    refine sr_pu rfl (fun _ => rd_idxq el_sl_api_Node (ev_t rfl) ev_c (fun _ => by omega) (fun _ => (h0x (by omega)).1)) ?_
    refine sr_rd rfl (rd_loads agg_api_Node (ev_t rfl) rfl (fun _ => (h0x (by omega)).2.1.grow g)) ?_
    refine sr_pure rfl (rc_call go_r07_constant ev_f (args_cons (ev_t rfl) (args_nil)) rfl) (rconst_ok (kidAt t 0) _ D _ ((h0x (by omega)).2.2.grow g) hex) (fun w37 g37 => ?_)
    have g := g.trans (g37)
    replace B1 := B1.grow (g37)
    replace B2 := B2.grow (g37)
    try have hk5 := hk5.grow (g37)
    try have hO := hO.grow (g37)
    refine sr_pu rfl (fun _ => rd_move (ev_t rfl)) ?_
    refine sr_pu rfl (fun _ => rd_extract (ev_t rfl) rfl) ?_
    refine sr_pu rfl (fun _ => rd_extract (ev_t rfl) rfl) ?_
    refine sr_pu rfl (fun _ => rd_extract (ev_t rfl) rfl) ?_
    refine sr_pu rfl (fun _ => rd_assign (ev_t rfl)) ?_
    refine sr_pu rfl (fun _ => rd_assign (ev_t rfl)) ?_
    refine sr_pu rfl (fun _ => rd_assign (ev_t rfl)) ?_
    refine sr_sub [(1, _, _), (2, _, _), (6, _, _), (8, _, _)] (sub_cons rfl (sub_cons rfl (sub_cons rfl (sub_cons rfl (sub_nil _))))) ?_
    refine sr_nil (hK18 _ _ ?_)
    refine sc_seq fun K19 hK19 => ?_
    refine sc_seq fun K20 hK20 => ?_
    refine sc_text [3, 3, 3, 3, 3] ?_
    refine sr_pu rfl (fun _ => rd_move (ev_t rfl)) ?_
    refine sr_pu rfl (fun _ => rd_move (ev_t rfl)) ?_
    refine sr_pug rfl rfl rfl (fun _ => rd_move (ev_t rfl)) ?_
    refine sr_pug rfl rfl rfl (fun _ => rd_eq (ev_u rfl id) ev_c) ?_
    refine sr_pu rfl (fun _ => rd_pick_and (ev_t rfl) (ev_u rfl id)) ?_
    refine sr_sub [(1, _, _), (2, _, _), (8, _, _), (45, _, _)] (sub_cons rfl (sub_cons rfl (sub_cons rfl (sub_cons rfl (sub_nil _))))) ?_
    refine sr_nil (hK20 _ _ ?_)
    refine sc_cond (ev_t rfl) (fun h6 => ?_) (fun h6 => ?_)
    · (try simp only [bsimp] at h6)
      refine sc_seq fun K21 hK21 => ?_
      refine sc_text [3, 0, 3, 0, 1, 2] ?_
      have hv0 := Bool.and_eq_true_iff.1 h6
      have hT : foldT t = foldT (kidAt t 1) := by
        rw [hr0.1] at hv0; rw [hr0.2 hv0.1] at hv0
        rw [hfd, hv0.1, hv0.2, cond_true, cond_true]; exact getD_fold (by omega)
      refine sr_pu rfl (fun _ => rd_field fo_api_Node_4 (ev_t rfl)) ?_
      refine sr_rd rfl (rd_load one_sl_api_Node (ev_t rfl) (fun _ => B1.at_ rfl)) ?_
      refine sr_pu rfl (fun _ => rd_idxq el_sl_api_Node (ev_t rfl) ev_c (fun _ => by omega) (fun _ => (h1x (by omega)).1)) ?_
      refine sr_rd rfl (rd_loads agg_api_Node (ev_t rfl) rfl (fun _ => (h1x (by omega)).2.1.grow g)) ?_
      refine sr_call rfl (rc_call go_r07_folded ev_f (args_cons (ev_t rfl) (args_nil)) rfl) (hfi 1 (by omega) _ D _ ((h1x (by omega)).2.2.grow g)) ?_
      rintro v50 w50 ⟨⟨p5, c5, rfl, hk5⟩, g50⟩
      refine ⟨fun _ => g50, ?_⟩
      have hlow := g.size
      have hB2 := B2.lt
      have g := g.trans g50
      have hk5 := hk5.lt
      replace B1 := B1.grow (g50)
      replace B2 := B2.grow (g50)
      try have hk5 := hk5.grow (g50)
      try have hO := hO.grow (g50)
      refine sr_store_all rfl sz_api_Node (ev_t rfl) (ev_t rfl) rfl rfl B2 rfl rfl ?_
      intro wS4 hgS4 hzS4
      clear B2
      intro B2
      replace B1 := B1.keep hgS4 (by intro h; injection h with h; first | exact x2_1 h.symm | exact x1_2 h | omega)
      have g := g_only g hgS4 (by intro k hk; injection hk with hk; omega)
      try have hk5 := hk5.keep hgS4 (fun b hb _ he => by injection he with he; have hb := hb.1; omega)
      try have hO := hO.keep hgS4 (by simp [Dx])
      refine sr_sub [(1, _, _), (2, _, _), (8, _, _)] (sub_cons rfl (sub_cons rfl (sub_cons rfl (sub_nil _)))) ?_
      refine sr_nil (hK21 _ _ ?_)
      refine sc_ret (t_retv1 rfl (evr_c rfl agg_api_Node rfl (by first | exact B1.row | exact B2.row) (evr_nil)) ?_)
      first
        | exact ⟨⟨_, _, by rw [hT], by rw [hT]; exact hk5.mono fun b hb _ => Nat.le_trans hlow hb.1⟩, g⟩
        | exact ⟨by rw [hT]; exact retNd_leaf _ _ _ rfl, g⟩
        | exact ⟨by rw [hT]; exact retNd_kd (hO.kd fun b hb => hb.1), g⟩
    (try simp only [bsimp] at h6)
    refine sc_skip (hK19 _ _ ?_)
    refine sc_sub [(1, _, _), (2, _, _), (8, _, _)] (sub_cons rfl (sub_cons rfl (sub_cons rfl (sub_nil _)))) ?_
    refine sc_seq fun K21 hK21 => ?_
    refine sc_seq fun K22 hK22 => ?_
    refine sc_text [3, 3, 3, 0, 3, 3, 0, 3, 3] ?_
    have hn1 := h6
    refine sr_pu rfl (fun _ => rd_move (ev_t rfl)) ?_
    refine sr_pu rfl (fun _ => rd_move (ev_t rfl)) ?_
    refine sr_pug rfl rfl rfl (fun _ => rd_field fo_api_Node_4 (ev_t rfl)) ?_
    refine sr_rdg rfl rfl rfl (rd_load one_sl_api_Node (ev_u rfl id) (fun _ => B1.at_ rfl)) ?_
    refine sr_pug rfl rfl rfl (fun _ => rd_idxq el_sl_api_Node (ev_u rfl id) ev_c (fun _ => by omega) (fun _ => (h2x (by omega)).1)) ?_
    refine sr_pug rfl rfl rfl (fun _ => rd_field fo_api_Node_0 (ev_u rfl id)) ?_
    refine sr_rdg rfl rfl rfl (rd_load one_int (ev_u rfl id) (fun _ => ((h2x (by omega)).2.1.grow g) 0 _ rfl)) ?_
    refine sr_pug rfl rfl rfl (fun _ => rd_eq (ev_u rfl id) ev_c) ?_
    refine sr_pu rfl (fun _ => rd_pick_and (ev_t rfl) (ev_u rfl id)) ?_
    refine sr_sub [(1, _, _), (2, _, _), (8, _, _), (59, _, _)] (sub_cons rfl (sub_cons rfl (sub_cons rfl (sub_cons rfl (sub_nil _))))) ?_
    refine sr_nil (hK22 _ _ ?_)
    refine sc_cond (ev_t rfl) (fun h7 => ?_) (fun h7 => ?_)
    · (try simp only [bsimp] at h7)
      refine sc_seq fun K23 hK23 => ?_
      refine sc_text [3, 0, 3, 2] ?_
      have hv0 := Bool.and_eq_true_iff.1 h7
      have hT : foldT t = .mk 10 [] 0 t.pos [] ty0 0 0 := by
        rw [hr0.1] at hv0 hn1; rw [hr0.2 hv0.1, hv0.1, Bool.true_and] at hn1
        rw [hfd, hv0.1, hn1, hv0.2, cond_true, cond_true, cond_false]
      refine sr_pu rfl (fun _ => rd_field fo_api_Node_3 (ev_t rfl)) ?_
      refine sr_rd rfl (rd_load one_int (ev_t rfl) (fun _ => B1.at_ rfl)) ?_
      refine sr_pu rfl (fun _ => rd_build [_, _, _, _, _, _, _, _, _] ze_api_Node rfl pl_api_Node (parts_cons ev_c (parts_cons (ev_t rfl) (parts_nil))) rfl) ?_
      refine sr_store_all rfl sz_api_Node (ev_t rfl) (ev_t rfl) rfl rfl B2 rfl rfl ?_
      intro wS4 hgS4 hzS4
      clear B2
      intro B2
      replace B1 := B1.keep hgS4 (by intro h; injection h with h; first | exact x2_1 h.symm | exact x1_2 h | omega)
      have g := g_only g hgS4 (by intro k hk; injection hk with hk; omega)
      try have hk5 := hk5.keep hgS4 (fun b hb _ he => by injection he with he; have hb := hb.1; omega)
      try have hO := hO.keep hgS4 (by simp [Dx])
      refine sr_sub [(1, _, _), (2, _, _), (8, _, _)] (sub_cons rfl (sub_cons rfl (sub_cons rfl (sub_nil _)))) ?_
      refine sr_nil (hK23 _ _ ?_)
      refine sc_ret (t_retv1 rfl (evr_c rfl agg_api_Node rfl (by first | exact B1.row | exact B2.row) (evr_nil)) ?_)
      first
        | exact ⟨⟨_, _, by rw [hT], by rw [hT]; exact hk5.mono fun b hb _ => Nat.le_trans hlow hb.1⟩, g⟩
        | exact ⟨by rw [hT]; exact retNd_leaf _ _ _ rfl, g⟩
        | exact ⟨by rw [hT]; exact retNd_kd (hO.kd fun b hb => hb.1), g⟩
    (try simp only [bsimp] at h7)
    refine sc_skip (hK21 _ _ ?_)
    refine sc_sub [(1, _, _), (2, _, _), (8, _, _)] (sub_cons rfl (sub_cons rfl (sub_cons rfl (sub_nil _)))) ?_
    refine sc_seq fun K23 hK23 => ?_
    refine sc_text [3] ?_
    have hn2 := h7
    refine sr_pu rfl (fun _ => rd_move (ev_t rfl)) ?_
    refine sr_sub [(1, _, _), (2, _, _), (63, _, _)] (sub_cons rfl (sub_cons rfl (sub_cons rfl (sub_nil _)))) ?_
    refine sr_nil (hK23 _ _ ?_)
    refine sc_cond (ev_t rfl) (fun h8 => ?_) (fun h8 => ?_)
    · (try simp only [bsimp] at h8)
      refine sc_seq fun K24 hK24 => ?_
      refine sc_text [3, 0, 3, 0, 1, 2] ?_
      have hv0 := h8
      have hT : foldT t = foldT (kidAt t 2) := by
        rw [hr0.1] at hv0 hn1 hn2; rw [hr0.2 hv0, hv0, Bool.true_and] at hn1; rw [hv0, Bool.true_and] at hn2
        rw [hfd, hv0, hn1, hn2, cond_true, cond_false, cond_false]; exact getD_fold (by omega)
      refine sr_pu rfl (fun _ => rd_field fo_api_Node_4 (ev_t rfl)) ?_
      refine sr_rd rfl (rd_load one_sl_api_Node (ev_t rfl) (fun _ => B1.at_ rfl)) ?_
      refine sr_pu rfl (fun _ => rd_idxq el_sl_api_Node (ev_t rfl) ev_c (fun _ => by omega) (fun _ => (h2x (by omega)).1)) ?_
      refine sr_rd rfl (rd_loads agg_api_Node (ev_t rfl) rfl (fun _ => (h2x (by omega)).2.1.grow g)) ?_
      refine sr_call rfl (rc_call go_r07_folded ev_f (args_cons (ev_t rfl) (args_nil)) rfl) (hfi 2 (by omega) _ D _ ((h2x (by omega)).2.2.grow g)) ?_
      rintro v68 w68 ⟨⟨p5, c5, rfl, hk5⟩, g68⟩
      refine ⟨fun _ => g68, ?_⟩
      have hlow := g.size
      have hB2 := B2.lt
      have g := g.trans g68
      have hk5 := hk5.lt
      replace B1 := B1.grow (g68)
      replace B2 := B2.grow (g68)
      try have hk5 := hk5.grow (g68)
      try have hO := hO.grow (g68)
      refine sr_store_all rfl sz_api_Node (ev_t rfl) (ev_t rfl) rfl rfl B2 rfl rfl ?_
      intro wS4 hgS4 hzS4
      clear B2
      intro B2
      replace B1 := B1.keep hgS4 (by intro h; injection h with h; first | exact x2_1 h.symm | exact x1_2 h | omega)
      have g := g_only g hgS4 (by intro k hk; injection hk with hk; omega)
      try have hk5 := hk5.keep hgS4 (fun b hb _ he => by injection he with he; have hb := hb.1; omega)
      try have hO := hO.keep hgS4 (by simp [Dx])
      refine sr_sub [(1, _, _), (2, _, _)] (sub_cons rfl (sub_cons rfl (sub_nil _))) ?_
      refine sr_nil (hK24 _ _ ?_)
      refine sc_ret (t_retv1 rfl (evr_c rfl agg_api_Node rfl (by first | exact B1.row | exact B2.row) (evr_nil)) ?_)
      first
        | exact ⟨⟨_, _, by rw [hT], by rw [hT]; exact hk5.mono fun b hb _ => Nat.le_trans hlow hb.1⟩, g⟩
        | exact ⟨by rw [hT]; exact retNd_leaf _ _ _ rfl, g⟩
        | exact ⟨by rw [hT]; exact retNd_kd (hO.kd fun b hb => hb.1), g⟩
    (try simp only [bsimp] at h8)
    refine sc_skip (hK16 _ _ ?_)
    refine sc_sub [(1, _, _), (2, _, _)] (sub_cons rfl (sub_cons rfl (sub_nil _))) ?_
    refine sc_seq fun K24 hK24 => ?_
    refine sc_text [3, 0, 3] ?_
    have hT : foldT t = Nd.mk t.kind t.text t.num t.pos (t.kids.map foldT) t.ty t.ref t.up := by
      rw [← hself]
      have hz := h8
      refine fold_o (by first | exact hnl | exact fold_n hnl rfl) ?_
      first
        | (rw [hr0.1] at hz; rw [hz, Bool.and_false])
        | (rw [hz]; rfl)
    refine sr_pu rfl (fun _ => rd_field fo_api_Node_4 (ev_t rfl)) ?_
    refine sr_rd rfl (rd_load one_sl_api_Node (ev_t rfl) (fun _ => B1.at_ rfl)) ?_
    refine sr_pu rfl (fun _ => rd_assign (ev_t rfl)) ?_
    refine sr_sub [(1, _, _), (2, _, _), (9, _, _)] (sub_cons rfl (sub_cons rfl (sub_cons rfl (sub_nil _)))) ?_
    refine sr_nil (hK24 _ _ ?_)
    refine sc_seq fun K25 hK25 => ?_
    refine sc_text [3, 2] ?_
    refine sr_pu rfl (fun _ => rd_field fo_api_Node_4 (ev_t rfl)) ?_
    refine sr_store_one rfl sz_sl_api_Node (ev_t rfl) ev_c rfl B1 rfl rfl ?_
    intro wS4 hgS4 hzS4
    clear B1
    intro B1
    replace B2 := B2.keep hgS4 (by intro h; injection h with h; first | exact x1_2 h.symm | exact x2_1 h | omega)
    have g := g_only g hgS4 (by intro k hk; injection hk with hk; omega)
    refine sr_sub [(1, _, _), (2, _, _), (9, _, _)] (sub_cons rfl (sub_cons rfl (sub_cons rfl (sub_nil _)))) ?_
    refine sr_nil (hK25 _ _ ?_)
    refine sc_seq fun K26 hK26 => ?_
    refine sc_seq fun K27 hK27 => ?_
    refine sc_text [3] ?_
    refine sr_pu rfl (fun _ => rd_assign ev_c) ?_
    refine sr_nil (hK27 _ _ ?_)
    refine sc_block ?_
    refine sc_loop3 (fun (i : Nat) u2 => (i ≤ t.kids.length ∧ ∃ s, Blk u2 b1 ty_api_Node (ndCells t s) ∧ OwnK ty_api_Node (Dx w.heap.size [b1, b2]) w.heap.size u2 ((t.kids.take i).map foldT) s) ∧ G w u2) _ [(1, True, _), (2, True, _), (9, True, _)] (fun (i : Nat) => [(10, True, .int .i64 i)]) (fun (i : Nat) => t.kids.length - i) (0) ⟨⟨Nat.zero_le _, _, B1, ownK_nil _ _ _ _⟩, g⟩ (andE_mk (blkE B2) (nilE_mk _)) (sub_cons rfl (sub_cons rfl (sub_cons rfl (sub_cons rfl (sub_nil _))))) ?_
    clear B1 B2
    rintro i u2 ⟨hI2, gl2⟩ ⟨B2, _⟩
    replace B2 : Blk _ _ _ _ := B2
    have g := gl2
    obtain ⟨hi, s, B1, hO⟩ := hI2
    obtain ⟨sa, sc, rfl⟩ := hO.slice
    refine sc_seq fun K28 hK28 => ?_
    refine sc_seq fun K29 hK29 => ?_
    refine sc_text [3, 3, 3, 3] ?_
    refine sr_pu rfl (fun _ => rd_move (ev_t rfl)) ?_
    refine sr_pu rfl (fun _ => rd_move (ev_t rfl)) ?_
    refine sr_pu rfl (fun _ => rd_len el_sl_api_Node (ev_t rfl)) ?_
    refine sr_pu rfl (fun _ => rd_lt (ev_t rfl) (ev_t rfl)) ?_
    refine sr_sub [(1, _, _), (2, _, _), (9, _, _), (10, _, _), (75, _, _)] (sub_cons rfl (sub_cons rfl (sub_cons rfl (sub_cons rfl (sub_cons rfl (sub_nil _)))))) ?_
    refine sr_nil (hK29 _ _ ?_)
    refine sc_cond (ev_t rfl) (fun h9 => ?_) (fun h9 => ?_)
    · (try simp only [bsimp] at h9)
      refine sc_skip (hK28 _ _ ?_)
      refine sc_sub [(1, _, _), (2, _, _), (9, _, _), (10, _, _)] (sub_cons rfl (sub_cons rfl (sub_cons rfl (sub_cons rfl (sub_nil _))))) ?_
      refine sc_seq fun K30 hK30 => ?_
      refine sc_block ?_
      refine sc_draw [3, 0, 3, 3, 3, 0, 1, 1, 2, 3, 2] [true, true, true, true, true, true, true, true, true, true, true] [0, 1, 0, 0, 12, 28, 60, 124, 255, 511, 1023] mix (by kernel_rfl) ?_
      have g := g.trans (G.drew _)
      replace B1 := B1.grow (G.drew _)
      replace B2 := B2.grow (G.drew _)
      try have hk5 := hk5.grow (G.drew _)
      try have hO := hO.grow (G.drew _)
      have h2 : i < t.kids.length := by have hz := h9; simp only [decide_eq_true_eq] at hz; omega
      obtain ⟨b, o, rfl, hD, xs, hR, hX⟩ := hks (by omega)
      obtain ⟨p', c', hcell, hkid⟩ := kd_at hR hX h2
      have hck := count_kid h2
      have hkl := kids_le t.kids[i]
      have hu := g.size
      have hB1lt := B1.lt
      have hB2lt := B2.lt
      have hOlt := hO.lt
      refine sr_pu rfl (fun _ => rd_field fo_api_Node_4 (ev_t rfl)) ?_
      refine sr_rd rfl (rd_load one_sl_api_Node (ev_t rfl) (fun _ => B1.at_ rfl)) ?_
      refine sr_pu rfl (fun _ => rd_move (ev_t rfl)) ?_
      refine sr_pu rfl (fun _ => rd_move (ev_t rfl)) ?_
      refine sr_pu rfl (fun _ => rd_idx el_sl_api_Node (ev_t rfl) (ev_t rfl) (fun _ => by omega)) ?_
      refine sr_rd rfl (rd_loads agg_api_Node (ev_t rfl) rfl (fun _ => hcell.grow g)) ?_
      refine sr_call rfl (rc_call go_r07_folded ev_f (args_cons (ev_t rfl) (args_nil)) rfl) (hf _ (List.getElem_mem h2) _ _ _ (hkid.grow g)) ?_
      rintro v84 w84 ⟨⟨p5, c5, rfl, hk5⟩, g84⟩
      refine ⟨fun _ => g84, ?_⟩
      have g := g.trans g84
      replace B1 := B1.grow (g84)
      replace B2 := B2.grow (g84)
      try have hk5 := hk5.grow (g84)
      try have hO := hO.grow (g84)
      refine sr_buildSlice [_, _, _, _, _, _, _, _, _] rfl el_sl_api_Node ze_api_Node (parts_cons (ev_t rfl) (parts_nil)) rfl rfl ?_
      intro b85 w85 N85
      have x85_1 := N85.ne B1
      have x85_2 := N85.ne B2
      have l85 := N85.ge g
      have g := g.trans (N85.g)
      replace B1 := B1.grow (N85.g)
      replace B2 := B2.grow (N85.g)
      try have hk5 := hk5.grow (N85.g)
      try have hO := hO.grow (N85.g)
      have B85 := N85.blk
      have hOo := hO
      refine sr_appendK rfl el_sl_api_Node ze_api_Node rfl (ev_t rfl) hO (ev_t rfl) rfl B85.row (krow_one (hk5.mono fun k hk _ => ⟨⟨by have hk : _ ≤ k := hk; omega, by have hk : _ ≤ k := hk; have := hB1lt; have := hB2lt; simp; omega⟩, fun he => by have := hOlt k he.symm; have hk : _ ≤ k := hk; omega⟩)) (by simp; omega) (by have := g.size; omega) ⟨by have := g.size; omega, by have q1 := B1.lt; have q2 := B2.lt; simp; omega⟩ ?_
      intro a86 c86 w86 hO hg86
      replace B1 := B1.keep hg86 (hOo.ne (by simp [Dx]))
      replace B2 := B2.keep hg86 (hOo.ne (by simp [Dx]))
      have g := g_only g hg86 (fun k hk => hOo.ge k hk)
      refine sr_pu rfl (fun _ => rd_field fo_api_Node_4 (ev_t rfl)) ?_
      refine sr_store_one rfl sz_sl_api_Node (ev_t rfl) (ev_t rfl) rfl B1 rfl rfl ?_
      intro wS5 hgS5 hzS5
      clear B1
      intro B1
      replace B2 := B2.keep hgS5 (by intro h; injection h with h; first | exact x1_2 h.symm | exact x2_1 h | omega)
      have g := g_only g hgS5 (by intro k hk; injection hk with hk; omega)
      have hO := hO.keep hgS5 (by simp [Dx])
      refine sr_sub [(1, _, _), (2, _, _), (9, _, _), (10, _, _)] (sub_cons rfl (sub_cons rfl (sub_cons rfl (sub_cons rfl (sub_nil _))))) ?_
      refine sr_nil (hK30 _ _ ?_)
      refine sc_text [3, 3, 3] ?_
      refine sr_pu rfl (fun _ => rd_move (ev_t rfl)) ?_
      refine sr_pu rfl (fun _ => rd_add (ev_t rfl) ev_c (fun _ => by omega)) ?_
      refine sr_pu rfl (fun _ => rd_assign (ev_t rfl)) ?_
      refine sr_sub [(10, _, _), (1, _, _), (2, _, _), (9, _, _)] (sub_cons rfl (sub_cons rfl (sub_cons rfl (sub_cons rfl (sub_nil _))))) ?_
      refine sr_nil (fun a ha => ?_)
      exact ⟨i + 1, ha, ⟨⟨h2, _, B1, by rw [take_step h2, List.map_append]; exact hO⟩, g⟩, (andE_mk (blkE B2) (nilE_mk _)), by omega⟩
    (try simp only [bsimp] at h9)
    refine sc_exit rfl (hK26 _ _ ?_)
    refine sc_sub [(1, _, _), (2, _, _)] (sub_cons rfl (sub_cons rfl (sub_nil _))) ?_
    refine sc_seq fun K31 hK31 => ?_
    refine sc_text [0, 2] ?_
    have h2 : i = t.kids.length := by have hz := h9; simp only [decide_eq_false_iff_not] at hz; omega
    subst h2
    rw [List.take_length] at hO B1
    refine sr_rd rfl (rd_loads agg_api_Node (ev_t rfl) rfl (fun _ => B1.row)) ?_
    refine sr_store_all rfl sz_api_Node (ev_t rfl) (ev_t rfl) rfl rfl B2 rfl rfl ?_
    intro wS6 hgS6 hzS6
    clear B2
    intro B2
    replace B1 := B1.keep hgS6 (by intro h; injection h with h; first | exact x2_1 h.symm | exact x1_2 h | omega)
    have g := g_only g hgS6 (by intro k hk; injection hk with hk; omega)
    try have hk5 := hk5.keep hgS6 (fun b hb _ he => by injection he with he; have hb := hb.1; omega)
    try have hO := hO.keep hgS6 (by simp [Dx])
    refine sr_nil (hK31 _ _ ?_)
    refine sc_ret (t_retv1 rfl (evr_c rfl agg_api_Node rfl (by first | exact B1.row | exact B2.row) (evr_nil)) ?_)
    first
      | exact ⟨⟨_, _, by rw [hT], by rw [hT]; exact hk5.mono fun b hb _ => Nat.le_trans hlow hb.1⟩, g⟩
      | exact ⟨by rw [hT]; exact retNd_leaf _ _ _ rfl, g⟩
      | exact ⟨by rw [hT]; exact retNd_kd (hO.kd fun b hb => hb.1), g⟩
  (try simp only [bsimp] at h5)
  refine sc_skip (hK16 _ _ ?_)
  refine sc_sub [(1, _, _), (2, _, _)] (sub_cons rfl (sub_cons rfl (sub_nil _))) ?_
  refine sc_seq fun K18 hK18 => ?_
  refine sc_text [3, 0, 3] ?_
  have hT : foldT t = Nd.mk t.kind t.text t.num t.pos (t.kids.map foldT) t.ty t.ref t.up := by
    rw [← hself]
    have hz := h5
    refine fold_o (by first | exact hnl | exact fold_n hnl rfl) ?_
    first
      | (rw [hr0.1] at hz; rw [hz, Bool.and_false])
      | (rw [hz]; rfl)
  refine sr_pu rfl (fun _ => rd_field fo_api_Node_4 (ev_t rfl)) ?_
  refine sr_rd rfl (rd_load one_sl_api_Node (ev_t rfl) (fun _ => B1.at_ rfl)) ?_
  refine sr_pu rfl (fun _ => rd_assign (ev_t rfl)) ?_
  refine sr_sub [(1, _, _), (2, _, _), (9, _, _)] (sub_cons rfl (sub_cons rfl (sub_cons rfl (sub_nil _)))) ?_
  refine sr_nil (hK18 _ _ ?_)
  refine sc_seq fun K19 hK19 => ?_
  refine sc_text [3, 2] ?_
  refine sr_pu rfl (fun _ => rd_field fo_api_Node_4 (ev_t rfl)) ?_
  refine sr_store_one rfl sz_sl_api_Node (ev_t rfl) ev_c rfl B1 rfl rfl ?_
  intro wS4 hgS4 hzS4
  clear B1
  intro B1
  replace B2 := B2.keep hgS4 (by intro h; injection h with h; first | exact x1_2 h.symm | exact x2_1 h | omega)
  have g := g_only g hgS4 (by intro k hk; injection hk with hk; omega)
  refine sr_sub [(1, _, _), (2, _, _), (9, _, _)] (sub_cons rfl (sub_cons rfl (sub_cons rfl (sub_nil _)))) ?_
  refine sr_nil (hK19 _ _ ?_)
  refine sc_seq fun K20 hK20 => ?_
  refine sc_seq fun K21 hK21 => ?_
  refine sc_text [3] ?_
  refine sr_pu rfl (fun _ => rd_assign ev_c) ?_
  refine sr_nil (hK21 _ _ ?_)
  refine sc_block ?_
  refine sc_loop3 (fun (i : Nat) u2 => (i ≤ t.kids.length ∧ ∃ s, Blk u2 b1 ty_api_Node (ndCells t s) ∧ OwnK ty_api_Node (Dx w.heap.size [b1, b2]) w.heap.size u2 ((t.kids.take i).map foldT) s) ∧ G w u2) _ [(1, True, _), (2, True, _), (9, True, _)] (fun (i : Nat) => [(10, True, .int .i64 i)]) (fun (i : Nat) => t.kids.length - i) (0) ⟨⟨Nat.zero_le _, _, B1, ownK_nil _ _ _ _⟩, g⟩ (andE_mk (blkE B2) (nilE_mk _)) (sub_cons rfl (sub_cons rfl (sub_cons rfl (sub_cons rfl (sub_nil _))))) ?_
  clear B1 B2
  rintro i u2 ⟨hI2, gl2⟩ ⟨B2, _⟩
  replace B2 : Blk _ _ _ _ := B2
  have g := gl2
  obtain ⟨hi, s, B1, hO⟩ := hI2
  obtain ⟨sa, sc, rfl⟩ := hO.slice
  refine sc_seq fun K22 hK22 => ?_
  refine sc_seq fun K23 hK23 => ?_
  refine sc_text [3, 3, 3, 3] ?_
  refine sr_pu rfl (fun _ => rd_move (ev_t rfl)) ?_
  refine sr_pu rfl (fun _ => rd_move (ev_t rfl)) ?_
  refine sr_pu rfl (fun _ => rd_len el_sl_api_Node (ev_t rfl)) ?_
  refine sr_pu rfl (fun _ => rd_lt (ev_t rfl) (ev_t rfl)) ?_
  refine sr_sub [(1, _, _), (2, _, _), (9, _, _), (10, _, _), (75, _, _)] (sub_cons rfl (sub_cons rfl (sub_cons rfl (sub_cons rfl (sub_cons rfl (sub_nil _)))))) ?_
  refine sr_nil (hK23 _ _ ?_)
  refine sc_cond (ev_t rfl) (fun h6 => ?_) (fun h6 => ?_)
  · (try simp only [bsimp] at h6)
    refine sc_skip (hK22 _ _ ?_)
    refine sc_sub [(1, _, _), (2, _, _), (9, _, _), (10, _, _)] (sub_cons rfl (sub_cons rfl (sub_cons rfl (sub_cons rfl (sub_nil _))))) ?_
    refine sc_seq fun K24 hK24 => ?_
    refine sc_block ?_
    refine sc_draw [3, 0, 3, 3, 3, 0, 1, 1, 2, 3, 2] [true, true, true, true, true, true, true, true, true, true, true] [0, 1, 0, 0, 12, 28, 60, 124, 255, 511, 1023] mix (by kernel_rfl) ?_
    have g := g.trans (G.drew _)
    replace B1 := B1.grow (G.drew _)
    replace B2 := B2.grow (G.drew _)
    try have hk5 := hk5.grow (G.drew _)
    try have hO := hO.grow (G.drew _)
    have h2 : i < t.kids.length := by have hz := h6; simp only [decide_eq_true_eq] at hz; omega
    obtain ⟨b, o, rfl, hD, xs, hR, hX⟩ := hks (by omega)
    obtain ⟨p', c', hcell, hkid⟩ := kd_at hR hX h2
    have hck := count_kid h2
    have hkl := kids_le t.kids[i]
    have hu := g.size
    have hB1lt := B1.lt
    have hB2lt := B2.lt
    have hOlt := hO.lt
    refine sr_pu rfl (fun _ => rd_field fo_api_Node_4 (ev_t rfl)) ?_
    refine sr_rd rfl (rd_load one_sl_api_Node (ev_t rfl) (fun _ => B1.at_ rfl)) ?_
    refine sr_pu rfl (fun _ => rd_move (ev_t rfl)) ?_
    refine sr_pu rfl (fun _ => rd_move (ev_t rfl)) ?_
    refine sr_pu rfl (fun _ => rd_idx el_sl_api_Node (ev_t rfl) (ev_t rfl) (fun _ => by omega)) ?_
    refine sr_rd rfl (rd_loads agg_api_Node (ev_t rfl) rfl (fun _ => hcell.grow g)) ?_
    refine sr_call rfl (rc_call go_r07_folded ev_f (args_cons (ev_t rfl) (args_nil)) rfl) (hf _ (List.getElem_mem h2) _ _ _ (hkid.grow g)) ?_
    rintro v84 w84 ⟨⟨p5, c5, rfl, hk5⟩, g84⟩
    refine ⟨fun _ => g84, ?_⟩
    have g := g.trans g84
    replace B1 := B1.grow (g84)
    replace B2 := B2.grow (g84)
    try have hk5 := hk5.grow (g84)
    try have hO := hO.grow (g84)
    refine sr_buildSlice [_, _, _, _, _, _, _, _, _] rfl el_sl_api_Node ze_api_Node (parts_cons (ev_t rfl) (parts_nil)) rfl rfl ?_
    intro b85 w85 N85
    have x85_1 := N85.ne B1
    have x85_2 := N85.ne B2
    have l85 := N85.ge g
    have g := g.trans (N85.g)
    replace B1 := B1.grow (N85.g)
    replace B2 := B2.grow (N85.g)
    try have hk5 := hk5.grow (N85.g)
    try have hO := hO.grow (N85.g)
    have B85 := N85.blk
    have hOo := hO
    refine sr_appendK rfl el_sl_api_Node ze_api_Node rfl (ev_t rfl) hO (ev_t rfl) rfl B85.row (krow_one (hk5.mono fun k hk _ => ⟨⟨by have hk : _ ≤ k := hk; omega, by have hk : _ ≤ k := hk; have := hB1lt; have := hB2lt; simp; omega⟩, fun he => by have := hOlt k he.symm; have hk : _ ≤ k := hk; omega⟩)) (by simp; omega) (by have := g.size; omega) ⟨by have := g.size; omega, by have q1 := B1.lt; have q2 := B2.lt; simp; omega⟩ ?_
    intro a86 c86 w86 hO hg86
    replace B1 := B1.keep hg86 (hOo.ne (by simp [Dx]))
    replace B2 := B2.keep hg86 (hOo.ne (by simp [Dx]))
    have g := g_only g hg86 (fun k hk => hOo.ge k hk)
    refine sr_pu rfl (fun _ => rd_field fo_api_Node_4 (ev_t rfl)) ?_
    refine sr_store_one rfl sz_sl_api_Node (ev_t rfl) (ev_t rfl) rfl B1 rfl rfl ?_
    intro wS5 hgS5 hzS5
    clear B1
    intro B1
    replace B2 := B2.keep hgS5 (by intro h; injection h with h; first | exact x1_2 h.symm | exact x2_1 h | omega)
    have g := g_only g hgS5 (by intro k hk; injection hk with hk; omega)
    have hO := hO.keep hgS5 (by simp [Dx])
    refine sr_sub [(1, _, _), (2, _, _), (9, _, _), (10, _, _)] (sub_cons rfl (sub_cons rfl (sub_cons rfl (sub_cons rfl (sub_nil _))))) ?_
    refine sr_nil (hK24 _ _ ?_)
    refine sc_text [3, 3, 3] ?_
    refine sr_pu rfl (fun _ => rd_move (ev_t rfl)) ?_
    refine sr_pu rfl (fun _ => rd_add (ev_t rfl) ev_c (fun _ => by omega)) ?_
    refine sr_pu rfl (fun _ => rd_assign (ev_t rfl)) ?_
    refine sr_sub [(10, _, _), (1, _, _), (2, _, _), (9, _, _)] (sub_cons rfl (sub_cons rfl (sub_cons rfl (sub_cons rfl (sub_nil _))))) ?_
    refine sr_nil (fun a ha => ?_)
    exact ⟨i + 1, ha, ⟨⟨h2, _, B1, by rw [take_step h2, List.map_append]; exact hO⟩, g⟩, (andE_mk (blkE B2) (nilE_mk _)), by omega⟩
  (try simp only [bsimp] at h6)
  refine sc_exit rfl (hK20 _ _ ?_)
  refine sc_sub [(1, _, _), (2, _, _)] (sub_cons rfl (sub_cons rfl (sub_nil _))) ?_
  refine sc_seq fun K24 hK24 => ?_
  refine sc_text [0, 2] ?_
  have h2 : i = t.kids.length := by have hz := h6; simp only [decide_eq_false_iff_not] at hz; omega
  subst h2
  rw [List.take_length] at hO B1
  refine sr_rd rfl (rd_loads agg_api_Node (ev_t rfl) rfl (fun _ => B1.row)) ?_
  refine sr_store_all rfl sz_api_Node (ev_t rfl) (ev_t rfl) rfl rfl B2 rfl rfl ?_
  intro wS5 hgS5 hzS5
  clear B2
  intro B2
  replace B1 := B1.keep hgS5 (by intro h; injection h with h; first | exact x2_1 h.symm | exact x1_2 h | omega)
  have g := g_only g hgS5 (by intro k hk; injection hk with hk; omega)
  try have hk5 := hk5.keep hgS5 (fun b hb _ he => by injection he with he; have hb := hb.1; omega)
  try have hO := hO.keep hgS5 (by simp [Dx])
  refine sr_nil (hK24 _ _ ?_)
  refine sc_ret (t_retv1 rfl (evr_c rfl agg_api_Node rfl (by first | exact B1.row | exact B2.row) (evr_nil)) ?_)
  first
    | exact ⟨⟨_, _, by rw [hT], by rw [hT]; exact hk5.mono fun b hb _ => Nat.le_trans hlow hb.1⟩, g⟩
    | exact ⟨by rw [hT]; exact retNd_leaf _ _ _ rfl, g⟩
    | exact ⟨by rw [hT]; exact retNd_kd (hO.kd fun b hb => hb.1), g⟩
theorem val_plain : ∀ t, valC (plainT t) = valC t := by
  refine Nd.ind fun t ih => ?_
  have hk : ∀ i, valC (kidAt (plainT t) i) = valC (kidAt t i) := fun i => by
    by_cases h : i < t.kids.length
    · have h' : i < (plainT t).kids.length := by rw [plain_len]; exact h
      rw [kidAt_eq h, kidAt_eq h', ← ih _ (List.getElem_mem h)]
      congr 1; simp [plain_kids]
    · rw [kidAt_out h, kidAt_out (by rw [plain_len]; exact h)]
  rw [valC_eq, valC_eq t]
  unfold valF
  simp only [hk, lenK, plain_len, plainB]
  rw [show (plainT t).kind = t.kind by rw [plainT_eq]; rfl, show (plainT t).text = t.text by rw [plainT_eq]; rfl, show (plainT t).num = numS t by rw [plainT_eq]; rfl]
  cases h : countsB t
  · simp only [countsB, Bool.or_eq_false_iff] at h
    simp only [h.1, h.2, cond_false]
  · rw [numS, h]; rfl
theorem fold_plain : ∀ t, foldT (plainT t) = foldT t := by
  refine Nd.ind fun t ih => ?_
  have hk : (plainT t).kids.map foldT = t.kids.map foldT := by
    rw [plain_kids, List.map_map]; exact List.map_congr_left fun k hm => ih k hm
  have hk0 : ∀ i, (kidAt (plainT t) i).kind = (kidAt t i).kind ∧ valC (kidAt (plainT t) i) = valC (kidAt t i) := fun i => by
    by_cases h : i < t.kids.length
    · have h' : i < (plainT t).kids.length := by rw [plain_len]; exact h
      have e : kidAt (plainT t) i = plainT (kidAt t i) := by rw [kidAt_eq h, kidAt_eq h']; simp [plain_kids]
      rw [e, val_plain]; exact ⟨by rw [plainT_eq]; rfl, rfl⟩
    · rw [kidAt_out h, kidAt_out (by rw [plain_len]; exact h)]; exact ⟨rfl, rfl⟩
  rw [foldT_eq, foldT_eq t, hk]
  unfold foldF
  rw [val_plain, (hk0 0).2, (hk0 2).1, show (plainT t).kind = t.kind by rw [plainT_eq]; rfl, show (plainT t).text = t.text by rw [plainT_eq]; rfl, show (plainT t).pos = t.pos by rw [plainT_eq]; rfl, show (plainT t).num = numS t by rw [plainT_eq]; rfl]
  cases h : countsB t
  · simp only [countsB] at h
    rw [h]; rfl
  · rw [numS, h]; rfl
theorem rffile_ok (t : Nd) (v : Value) (D : Nat → Prop) (w : World) (hk : Kd w D t.kids v) (hcn : count t ≤ 1000000) : Ret PP fn_r07_File #[ndV t v] w fun r w' => RetNd (fileT t) w.heap.size r w' ∧ G w w' := by
  have g := G.refl w
  refine ret_of_sc (m := 10) func_r07_File rfl rfl [(0, True, _)] (sub_cons rfl (sub_nil _)) ?_
  refine sc_seq fun K1 hK1 => ?_
  refine sc_text [1, 1] ?_
  refine sr_box rfl (ev_t rfl) rfl ?_
  intro b1 w1 N1
  have l1 := N1.ge g
  have g := g.trans (N1.g)
  have B1 := N1.blk
  refine sr_alloc rfl ze_api_Node rfl ?_
  intro b2 w2 N2
  have x2_1 := N2.ne B1
  have l2 := N2.ge g
  have g := g.trans (N2.g)
  replace B1 := B1.grow (N2.g)
  have B2 := N2.blk
  refine sr_sub [(1, _, _), (2, _, _)] (sub_cons rfl (sub_cons rfl (sub_nil _))) ?_
  refine sr_nil (hK1 _ _ ?_)
  refine sc_seq fun K2 hK2 => ?_
  refine sc_seq fun K3 hK3 => ?_
  refine sc_text [0, 1, 3] ?_
  refine sr_rd rfl (rd_loads agg_api_Node (ev_t rfl) rfl (fun _ => B1.row)) ?_
  refine sr_pure rfl (rc_call go_r03_Valid ev_f (args_cons (ev_t rfl) (args_nil)) rfl) (rvalid03_ok t _ D _ (hk.grow g) hcn) (fun w4 g4 => ?_)
  have g := g.trans (g4)
  replace B1 := B1.grow (g4)
  replace B2 := B2.grow (g4)
  refine sr_pu rfl (fun _ => rd_not (ev_t rfl)) ?_
  refine sr_sub [(1, _, _), (2, _, _), (5, _, _)] (sub_cons rfl (sub_cons rfl (sub_cons rfl (sub_nil _)))) ?_
  refine sr_nil (hK3 _ _ ?_)
  refine sc_cond (ev_t rfl) (fun h1 => ?_) (fun h1 => ?_)
  · replace h1 : validB t = false := by simpa using h1
    refine sc_seq fun K4 hK4 => ?_
    refine sc_text [3, 2] ?_
    refine sr_pu rfl (fun _ => rd_build [_, _, _, _, _, _, _, _, _] ze_api_Node rfl pl_api_Node (parts_nil) rfl) ?_
    refine sr_store_all rfl sz_api_Node (ev_t rfl) (ev_t rfl) rfl rfl B2 rfl rfl ?_
    intro wS1 hgS1 hzS1
    clear B2
    intro B2
    replace B1 := B1.keep hgS1 (by intro h; injection h with h; first | exact x2_1 h.symm | exact x1_2 h | omega)
    have g := g_only g hgS1 (by intro k hk; injection hk with hk; omega)
    try have hk5 := hk5.keep hgS1 (fun b hb _ he => by injection he with he; omega)
    refine sr_sub [(1, _, _), (2, _, _)] (sub_cons rfl (sub_cons rfl (sub_nil _))) ?_
    refine sr_nil (hK4 _ _ ?_)
    refine sc_ret (t_retv1 rfl (evr_c rfl agg_api_Node rfl (by first | exact B1.row | exact B2.row) (evr_nil)) ?_)
    refine ⟨?_, g⟩
    rw [fileT, h1]; exact retNd_leaf nd0 _ _ rfl
  replace h1 : validB t = true := by simpa using h1
  refine sc_skip (hK2 _ _ ?_)
  refine sc_sub [(1, _, _), (2, _, _)] (sub_cons rfl (sub_cons rfl (sub_nil _))) ?_
  refine sc_seq fun K5 hK5 => ?_
  refine sc_text [0, 1, 1, 2] ?_
  refine sr_rd rfl (rd_loads agg_api_Node (ev_t rfl) rfl (fun _ => B1.row)) ?_
  refine sr_call rfl (rc_call go_r07_plain ev_f (args_cons (ev_t rfl) (args_nil)) rfl) (rplain_ok t _ D _ (hk.grow g) hcn) ?_
  rintro v8 w8 ⟨⟨p4, c4, rfl, hk4⟩, g8⟩
  refine ⟨fun _ => g8, ?_⟩
  have hlow := g.size
  have hB2 := B2.lt
  have g := g.trans g8
  replace B1 := B1.grow (g8)
  replace B2 := B2.grow (g8)
  refine sr_call rfl (rc_call go_r07_folded ev_f (args_cons (ev_t rfl) (args_nil)) rfl) (rfolded_ok (plainT t) (plain_idem t) (by rw [plain_perm]; exact validB_perm h1) (by rw [plain_count]; exact hcn) _ _ _ hk4) ?_
  rintro v9 w9 ⟨⟨p5, c5, rfl, hk5⟩, g9⟩
  refine ⟨fun _ => g9, ?_⟩
  have hl8 := g8.size
  have g := g.trans g9
  replace B1 := B1.grow (g9)
  replace B2 := B2.grow (g9)
  refine sr_store_all rfl sz_api_Node (ev_t rfl) (ev_t rfl) rfl rfl B2 rfl rfl ?_
  intro wS2 hgS2 hzS2
  clear B2
  intro B2
  replace B1 := B1.keep hgS2 (by intro h; injection h with h; first | exact x2_1 h.symm | exact x1_2 h | omega)
  have g := g_only g hgS2 (by intro k hk; injection hk with hk; omega)
  try have hk5 := hk5.keep hgS2 (fun b hb _ he => by injection he with he; omega)
  refine sr_sub [(2, _, _)] (sub_cons rfl (sub_nil _)) ?_
  refine sr_nil (hK5 _ _ ?_)
  refine sc_ret (t_retv1 rfl (evr_c rfl agg_api_Node rfl (by first | exact B1.row | exact B2.row) (evr_nil)) ?_)
  refine ⟨?_, g⟩
  rw [fileT, h1]; show RetNd (foldT t) _ _ _
  rw [← fold_plain]; exact ⟨_, _, rfl, hk5.mono fun b hb _ => by have hb : _ ≤ b := hb; omega⟩
end Go.Rk
namespace Go.Rk
open Go Go.RowKit
def xN : Nd := .mk 27 [120] 0 0 [] ty0 0 0
def aw1 : Nd := binN [45] (numT 1) (numT 3)
def aw2 : Nd := binN [47] (numT 1) (numT 0)
def aw3 : Nd := binN [43] (binN [42] (numT 2) (numT 3)) xN
def aw4 : Nd := binN [43] (numT 6) xN
theorem aw1_v : valC aw1 = ((false, -2), true) := by decide +kernel
theorem aw2_v : (valC aw2).2 = false := by decide +kernel
theorem aw3_c : count (printT aw3) ≤ 1000000 := by decide +kernel
theorem aw5_c : count (printedT (fileT (printT aw3))) ≤ 1000000 := by decide +kernel
theorem aw4_e : eqB (printedT (fileT (printT aw3))) aw4 = true := by decide +kernel
theorem awake7_ok (w : World) (hL : Laid w) (hb3 : 6 ≤ w.heap.size) : Ret PP fn_l07_awake #[] w fun v w' => v = .bool true ∧ G w w' := by
  have g := G.refl w
  refine ret_of_sc (m := 44) func_l07_awake rfl rfl [] (sub_nil _) ?_
  refine sc_seq fun K1 hK1 => ?_
  refine sc_text [3] ?_
  refine sr_pu rfl (fun _ => rd_assign ev_c) ?_
  refine sr_nil (hK1 _ _ ?_)
  refine sc_seq fun K2 hK2 => ?_
  refine sc_text [1, 1, 1, 1, 3, 3, 3, 3, 3] ?_
  refine sr_call rfl (rc_call go_l07_number ev_f (args_cons ev_c (args_nil)) rfl) (lnumber_ok _ _) ?_
  rintro v7 w7 ⟨⟨p7, c7, rfl, hk7⟩, g7⟩
  refine ⟨fun _ => g7, ?_⟩
  have g := g.trans g7
  refine sr_call rfl (rc_call go_l07_number ev_f (args_cons ev_c (args_nil)) rfl) (lnumber_ok _ _) ?_
  rintro v8 w8 ⟨⟨p8, c8, rfl, hk8⟩, g8⟩
  refine ⟨fun _ => g8, ?_⟩
  have g := g.trans g8
  refine sr_call rfl (rc_call go_l07_binary ev_f (args_cons ev_c (args_cons (ev_t rfl) (args_cons (ev_t rfl) (args_nil)))) rfl) (lbinary_ok _ _ _ _ _ _ _ _ (hk7.grow g8) hk8) ?_
  rintro v9 w9 ⟨⟨p9, c9, rfl, hk9⟩, g9⟩
  refine ⟨fun _ => g9, ?_⟩
  have g := g.trans g9
  refine sr_pure rfl (rc_call go_fold_Value ev_f (args_cons (ev_t rfl) (args_nil)) rfl) (fValue_ok aw1 _ _ _ hk9) (fun w10 g10 => ?_)
  have g := g.trans (g10)
  try have hk24 := hk24.grow (g10)
  refine sr_pu rfl (fun _ => rd_move (ev_t rfl)) ?_
  refine sr_pu rfl (fun _ => rd_extract (ev_t rfl) rfl) ?_
  refine sr_pu rfl (fun _ => rd_extract (ev_t rfl) rfl) ?_
  refine sr_pu rfl (fun _ => rd_assign (ev_t rfl)) ?_
  refine sr_pu rfl (fun _ => rd_assign (ev_t rfl)) ?_
  refine sr_sub [(0, _, _), (1, _, _), (2, _, _)] (sub_cons rfl (sub_cons rfl (sub_cons rfl (sub_nil _)))) ?_
  refine sr_nil (hK2 _ _ ?_)
  refine sc_seq fun K3 hK3 => ?_
  refine sc_text [1, 1, 1, 1, 3, 3, 3, 3, 3] ?_
  refine sr_call rfl (rc_call go_l07_number ev_f (args_cons ev_c (args_nil)) rfl) (lnumber_ok _ _) ?_
  rintro v14 w14 ⟨⟨p14, c14, rfl, hk14⟩, g14⟩
  refine ⟨fun _ => g14, ?_⟩
  have g := g.trans g14
  refine sr_call rfl (rc_call go_l07_number ev_f (args_cons ev_c (args_nil)) rfl) (lnumber_ok _ _) ?_
  rintro v15 w15 ⟨⟨p15, c15, rfl, hk15⟩, g15⟩
  refine ⟨fun _ => g15, ?_⟩
  have g := g.trans g15
  refine sr_call rfl (rc_call go_l07_binary ev_f (args_cons ev_c (args_cons (ev_t rfl) (args_cons (ev_t rfl) (args_nil)))) rfl) (lbinary_ok _ _ _ _ _ _ _ _ (hk14.grow g15) hk15) ?_
  rintro v16 w16 ⟨⟨p16, c16, rfl, hk16⟩, g16⟩
  refine ⟨fun _ => g16, ?_⟩
  have g := g.trans g16
  refine sr_pure rfl (rc_call go_fold_Value ev_f (args_cons (ev_t rfl) (args_nil)) rfl) (fValue_ok aw2 _ _ _ hk16) (fun w17 g17 => ?_)
  have g := g.trans (g17)
  try have hk24 := hk24.grow (g17)
  refine sr_pu rfl (fun _ => rd_move (ev_t rfl)) ?_
  refine sr_pu rfl (fun _ => rd_extract (ev_t rfl) rfl) ?_
  refine sr_pu rfl (fun _ => rd_extract (ev_t rfl) rfl) ?_
  refine sr_pu rfl (fun _ => rd_assign (ev_t rfl)) ?_
  refine sr_pu rfl (fun _ => rd_assign (ev_t rfl)) ?_
  refine sr_sub [(0, _, _), (1, _, _), (2, _, _), (4, _, _)] (sub_cons rfl (sub_cons rfl (sub_cons rfl (sub_cons rfl (sub_nil _))))) ?_
  refine sr_nil (hK3 _ _ ?_)
  refine sc_seq fun K4 hK4 => ?_
  refine sc_text [1, 1, 1, 3, 1, 1, 2] ?_
  refine sr_call rfl (rc_call go_l07_number ev_f (args_cons ev_c (args_nil)) rfl) (lnumber_ok _ _) ?_
  rintro v20 w20 ⟨⟨p20, c20, rfl, hk20⟩, g20⟩
  refine ⟨fun _ => g20, ?_⟩
  have g := g.trans g20
  refine sr_call rfl (rc_call go_l07_number ev_f (args_cons ev_c (args_nil)) rfl) (lnumber_ok _ _) ?_
  rintro v21 w21 ⟨⟨p21, c21, rfl, hk21⟩, g21⟩
  refine ⟨fun _ => g21, ?_⟩
  have g := g.trans g21
  refine sr_call rfl (rc_call go_l07_binary ev_f (args_cons ev_c (args_cons (ev_t rfl) (args_cons (ev_t rfl) (args_nil)))) rfl) (lbinary_ok _ _ _ _ _ _ _ _ (hk20.grow g21) hk21) ?_
  rintro v22 w22 ⟨⟨p22, c22, rfl, hk22⟩, g22⟩
  refine ⟨fun _ => g22, ?_⟩
  have g := g.trans g22
  refine sr_pu rfl (fun _ => rd_build [_, _, _, _, _, _, _, _, _] ze_api_Node rfl pl_api_Node (parts_cons ev_c (parts_cons ev_c (parts_nil))) rfl) ?_
  refine sr_call rfl (rc_call go_l07_binary ev_f (args_cons ev_c (args_cons (ev_t rfl) (args_cons (ev_t rfl) (args_nil)))) rfl) (lbinary_ok _ _ xN _ _ _ (fun _ => False) _ hk22 (kd_nil _ _)) ?_
  rintro v24 w24 ⟨⟨p24, c24, rfl, hk24⟩, g24⟩
  refine ⟨fun _ => g24, ?_⟩
  have g := g.trans g24
  have hk24 := hk24.lt
  refine sr_alloc rfl ze_api_Node rfl ?_
  intro b5 w5 N5
  have l5 := N5.ge g
  have g := g.trans (N5.g)
  try have hk24 := hk24.grow (N5.g)
  have B5 := N5.blk
  refine sr_store_all rfl sz_api_Node (ev_t rfl) (ev_t rfl) rfl rfl B5 rfl rfl ?_
  intro wS1 hgS1 hzS1
  clear B5
  intro B5
  have g := g_only g hgS1 (by intro k hk; injection hk with hk; omega)
  have hk24 := hk24.keep hgS1 (fun b hb _ he => by injection he with he; have hb := hb.2; have := N5.at_; omega)
  refine sr_sub [(0, _, _), (1, _, _), (2, _, _), (4, _, _), (5, _, _)] (sub_cons rfl (sub_cons rfl (sub_cons rfl (sub_cons rfl (sub_cons rfl (sub_nil _)))))) ?_
  refine sr_nil (hK4 _ _ ?_)
  refine sc_seq fun K5 hK5 => ?_
  refine sc_text [3, 3, 3, 3, 3, 3, 3, 3, 3, 3, 0, 1, 1, 1, 1, 3, 1, 1, 3, 3] ?_
  rw [aw1_v, aw2_v]
  refine sr_pu rfl (fun _ => rd_move (ev_t rfl)) ?_
  refine sr_pu rfl (fun _ => rd_eq (ev_t rfl) ev_c) ?_
  refine sr_pu rfl (fun _ => rd_move (ev_t rfl)) ?_
  refine sr_pug rfl rfl rfl (fun _ => rd_move (ev_t rfl)) ?_
  refine sr_pu rfl (fun _ => rd_pick_and (ev_t rfl) (ev_u rfl id)) ?_
  refine sr_pu rfl (fun _ => rd_move (ev_t rfl)) ?_
  refine sr_pug rfl rfl rfl (fun _ => rd_move (ev_t rfl)) ?_
  refine sr_pug rfl rfl rfl (fun _ => rd_not (ev_u rfl id)) ?_
  refine sr_pu rfl (fun _ => rd_pick_and (ev_t rfl) (ev_u rfl id)) ?_
  refine sr_pu rfl (fun _ => rd_move (ev_t rfl)) ?_
  refine sr_rdg rfl rfl rfl (rd_loads agg_api_Node (ev_t rfl) rfl (fun _ => B5.row)) ?_
  refine sr_callq rfl rfl rfl (fun _ => rc_call go_l07_printing ev_f (args_cons (ev_u rfl id) (args_nil)) rfl) (fun hc => lprinting_ok aw3 _ _ _ hk24) ?_
  intro v36 w36 hv36 g36
  have g := g.trans (g36)
  replace B5 := B5.grow (g36)
  try have hk24 := hk24.grow (g36)
  refine sr_callq rfl rfl rfl (fun _ => rc_call go_fold_File ev_f (args_cons (ev_u rfl id) (args_nil)) rfl) (fun hc => (by obtain ⟨p, c, e, hk⟩ := hv36 hc; rw [e]; exact ffile_ok (printT aw3) _ _ _ (hL.grow g) (by have := g.size; omega) hk aw3_c)) ?_
  intro v37 w37 hv37 g37
  have g := g.trans (g37)
  replace B5 := B5.grow (g37)
  try have hk24 := hk24.grow (g37)
  refine sr_callq rfl rfl rfl (fun _ => rc_call go_l07_printed ev_f (args_cons (ev_u rfl id) (args_nil)) rfl) (fun hc => (by obtain ⟨p, c, e, hk⟩ := hv37 hc; rw [e]; exact lprinted_ok _ _ _ _ hk)) ?_
  intro v38 w38 hv38 g38
  have g := g.trans (g38)
  replace B5 := B5.grow (g38)
  try have hk24 := hk24.grow (g38)
  refine sr_callq rfl rfl rfl (fun _ => rc_call go_l07_number ev_f (args_cons ev_c (args_nil)) rfl) (fun hc => lnumber_ok _ _) ?_
  intro v39 w39 hv39 g39
  have g := g.trans (g39)
  replace B5 := B5.grow (g39)
  try have hk24 := hk24.grow (g39)
  refine sr_pug rfl rfl rfl (fun _ => rd_build [_, _, _, _, _, _, _, _, _] ze_api_Node rfl pl_api_Node (parts_cons ev_c (parts_cons ev_c (parts_nil))) rfl) ?_
  refine sr_callq rfl rfl rfl (fun _ => rc_call go_l07_binary ev_f (args_cons ev_c (args_cons (ev_u rfl id) (args_cons (ev_u rfl id) (args_nil)))) rfl) (fun hc => (by obtain ⟨p, c, e, hk⟩ := hv39 hc; rw [e]; exact lbinary_ok _ _ xN _ _ _ (fun _ => False) _ hk (kd_nil _ _))) ?_
  intro v41 w41 hv41 g41
  have g := g.trans (g41)
  replace B5 := B5.grow (g41)
  try have hk24 := hk24.grow (g41)
  refine sr_pureg rfl rfl rfl (fun _ => (rc_call go_r03_Equal ev_f (args_cons (ev_u rfl id) (args_cons (ev_u rfl id) (args_nil))) rfl)) (fun hc => (show Ret PP _ _ w41 (fun r w' => r = .bool (eqB (printedT (fileT (printT aw3))) aw4) ∧ G w41 w') from by obtain ⟨p, c, e, hk⟩ := hv38 hc; obtain ⟨p', c', e', hk'⟩ := hv41 hc; rw [e, e']; exact requal_ok _ _ _ _ _ _ _ (hk.grow (g39.trans g41)) hk' aw5_c)) (fun w42 g42 => ?_)
  have g := g.trans (g42)
  replace B5 := B5.grow (g42)
  try have hk24 := hk24.grow (g42)
  refine sr_pu rfl (fun _ => rd_pick_and (ev_t rfl) (ev_u rfl id)) ?_
  refine sr_pu rfl (fun _ => rd_assign (ev_t rfl)) ?_
  refine sr_sub [(0, _, _)] (sub_cons rfl (sub_nil _)) ?_
  refine sr_nil (hK5 _ _ ?_)
  refine sc_ret (t_ret1 rfl rfl ?_)
  refine ⟨congrArg Value.bool ?_, g⟩
  rw [aw4_e]; rfl
end Go.Rk
namespace Go.Rk
open Go Go.RowKit
/-- How the kind of a node may change. -/
def KindR (a b : Int) : Prop := b = a ∨ (a = 18 ∧ b = 10) ∨ ((a = 24 ∨ a = 25 ∨ a = 31 ∨ a = 32) ∧ (b = 24 ∨ b = 25 ∨ b = 31))
/-- Conditions on kinds that folding keeps. -/
def Clo (q : Int → Bool) : Prop := (q 18 = true → q 10 = true) ∧ ((q 24 || q 25 || q 31 || q 32) = true → q 24 = true ∧ q 25 = true ∧ q 31 = true)
theorem neg_kids {t : Nd} {c : Cst} (h : valO t = some c) (h1 : c.1 = false) (h2 : c.2 < 0) : ∃ k, k ∈ t.kids := by
  have hl : 0 < t.kids.length := by
    rcases valO_kind h with e | e | e | e
    · rw [valO_eq, oF, decide_eq_true e] at h
      revert h
      simp only [cond_true]
      cases hx : (decide (0 ≤ t.num) && plainB t) && lenK t 0 with
      | false => intro h; cases h
      | true =>
        intro h; injection h with h
        rw [Bool.and_eq_true, Bool.and_eq_true, decide_eq_true_eq] at hx
        rw [← h] at h2; exact absurd hx.1.1 (by simp only at h2; omega)
    · rw [valO_eq, oF, decide_eq_false (by omega), decide_eq_true e] at h
      revert h
      simp only [cond_true, cond_false]
      cases ((decide (t.num = 0) || decide (t.num = 1)) && plainB t) && lenK t 0 with
      | false => intro h; cases h
      | true => intro h; injection h with h; rw [← h] at h1; cases h1
    · omega
    · omega
  exact ⟨_, List.getElem_mem hl⟩
theorem depth_kid {t k : Nd} (h : k ∈ t.kids) : depthN k + 1 ≤ depthN t := by
  have := ((depthN_le t (depthN t)).1 (Nat.le_refl _)).2 k h
  have := depthN_pos t
  have := depthN_pos k
  omega
theorem depth_leaf {t : Nd} (h : t.kids = []) : depthN t = 1 := by rw [depthN_eq, h]; rfl
theorem count_leaf {t : Nd} (h : t.kids = []) : count t = 1 := by rw [count_eq, h]; rfl
/-- A folded tree is no deeper and has no more nodes. -/
theorem size_fold : ∀ t, permF t = true → okNd t → depthN (foldT t) ≤ depthN t ∧ count (foldT t) ≤ count t := by
  refine Nd.ind fun t ih hp hk => ?_
  have ihk : ∀ k ∈ t.kids, depthN (foldT k) ≤ depthN k ∧ count (foldT k) ≤ count k := fun k hm => ih k hm (perm_kid hp hm) (okNd_kid hk hm)
  have ihi : ∀ i, i < t.kids.length → depthN (foldT (kidAt t i)) ≤ depthN t ∧ count (foldT (kidAt t i)) ≤ count t := fun i h => by
    rw [kidAt_eq h]
    have h1 := ihk _ (List.getElem_mem h)
    have h2 := depth_kid (List.getElem_mem h)
    have h3 := count_mem (List.getElem_mem h)
    omega
  have hd := depthN_pos t
  have hc := count_pos t
  rcases fold_cases hp with ⟨c, h1, h2, e⟩ | ⟨h1, h2, _, e⟩ | ⟨h1, _, e⟩
  · obtain ⟨o1, o2⟩ := valO_ok t hk c h1
    rw [e]
    rcases repl_cases o1 h2 with ⟨q, e⟩ | ⟨_, q, e⟩ | ⟨q0, q, _, e⟩ <;> rw [e]
    · rw [depth_leaf (show (boP c.2 t.pos).kids = [] from rfl), count_leaf (show (boP c.2 t.pos).kids = [] from rfl)]; omega
    · rw [depth_leaf (show (nmP c.2 t.pos).kids = [] from rfl), count_leaf (show (nmP c.2 t.pos).kids = [] from rfl)]; omega
    · obtain ⟨k, hm⟩ := neg_kids h1 q0 q
      have := depth_kid hm
      have := count_mem hm
      have := depthN_pos k
      have := count_pos k
      have e1 : depthN (unN (-c.2) t.pos) = 2 := by
        rw [depthN_eq]; show maxL [depthN (nmP (-c.2) t.pos)] + 1 = 2
        rw [depth_leaf (show (nmP (-c.2) t.pos).kids = [] from rfl)]; rfl
      have e2 : count (unN (-c.2) t.pos) = 2 := by
        rw [count_eq]; show 1 + [count (nmP (-c.2) t.pos)].sum = 2
        rw [count_leaf (show (nmP (-c.2) t.pos).kids = [] from rfl)]; rfl
      omega
  · rcases e with e | ⟨_, e⟩ | ⟨_, e⟩ <;> rw [e]
    · exact ihi 1 (by omega)
    · rw [depth_leaf (show (blP t.pos).kids = [] from rfl), count_leaf (show (blP t.pos).kids = [] from rfl)]; omega
    · exact ihi 2 (by omega)
  · rw [e]
    constructor
    · rw [depthN_le]
      refine ⟨hd, fun x hx => ?_⟩
      obtain ⟨k, hm, rfl⟩ := List.mem_map.1 hx
      have h3 := ihk k hm
      have := depth_kid hm
      omega
    · rw [count_eq, count_eq t]
      show 1 + ((t.kids.map foldT).map count).sum ≤ 1 + (t.kids.map count).sum
      have : ∀ l : List Nd, (∀ k ∈ l, count (foldT k) ≤ count k) → ((l.map foldT).map count).sum ≤ (l.map count).sum := by
        intro l
        induction l with
        | nil => intro _; exact Nat.le_refl _
        | cons x xs ihx =>
          intro h
          have := h x (List.mem_cons_self ..)
          have := ihx fun k hk => h k (List.mem_cons_of_mem _ hk)
          simp only [List.map_cons, List.sum_cons]; omega
      have := this t.kids fun k hm => (ihk k hm).2
      omega
end Go.Rk
namespace Go.Rk
open Go Go.RowKit
set_option linter.unusedVariables false
theorem fileT_count {t : Nd} (hok : okNd t) : count (fileT t) ≤ count t := by
  rw [fileT]
  cases h : validB t
  · exact Nat.le_trans (by decide +kernel : count nd0 ≤ 1) (count_pos t)
  · exact (size_fold t (validB_perm h) hok).2
theorem ffold_law (t : Nd) (v : Value) (D : Nat → Prop) (w : World) (hL : Laid w) (hb3 : 6 ≤ w.heap.size) (hk : Kd w D t.kids v) (hok : okNd t) (hc : count t ≤ 1048576) : Ret PP fn_l07_FoldFile #[ndV t v] w fun r w' => r = .bool true ∧ G w w' := by
  have g := G.refl w
  have hln := kids_le t
  have hfc := fileT_count hok
  refine ret_of_sc (m := 21) func_l07_FoldFile rfl rfl [(0, True, _)] (sub_cons rfl (sub_nil _)) ?_
  refine sc_seq fun K1 hK1 => ?_
  refine sc_text [1, 3] ?_
  refine sr_box rfl (ev_t rfl) rfl ?_
  intro b1 w1 N1
  have l1 := N1.ge g
  have g := g.trans (N1.g)
  try have hk10 := hk10.grow (N1.g)
  try have hk12 := hk12.grow (N1.g)
  try have hk14 := hk14.grow (N1.g)
  have B1 := N1.blk
  refine sr_pu rfl (fun _ => rd_assign ev_c) ?_
  refine sr_sub [(1, _, _), (2, _, _)] (sub_cons rfl (sub_cons rfl (sub_nil _))) ?_
  refine sr_nil (hK1 _ _ ?_)
  refine sc_seq fun K2 hK2 => ?_
  refine sc_seq fun K3 hK3 => ?_
  refine sc_text [1, 3] ?_
  refine sr_call rfl (rc_call go_l07_awake ev_f (args_nil) rfl) (awake7_ok _ (hL.grow g) (by have := g.size; omega)) ?_
  rintro v4 w4 ⟨rfl, g4⟩
  refine ⟨fun _ => g4, ?_⟩
  have g := g.trans (g4)
  replace B1 := B1.grow (g4)
  try have hk10 := hk10.grow (g4)
  try have hk12 := hk12.grow (g4)
  try have hk14 := hk14.grow (g4)
  refine sr_pu rfl (fun _ => rd_not (ev_t rfl)) ?_
  refine sr_sub [(1, _, _), (2, _, _), (5, _, _)] (sub_cons rfl (sub_cons rfl (sub_cons rfl (sub_nil _)))) ?_
  refine sr_nil (hK3 _ _ ?_)
  refine sc_cond (ev_t rfl) (fun h1 => ?_) (fun h1 => ?_)
  · exfalso; cases h1
    done
  (try simp only [bsimp] at h1)
  refine sc_skip (hK2 _ _ ?_)
  refine sc_sub [(1, _, _), (2, _, _)] (sub_cons rfl (sub_cons rfl (sub_nil _))) ?_
  refine sc_seq fun K4 hK4 => ?_
  refine sc_seq fun K5 hK5 => ?_
  refine sc_text [0, 1, 3] ?_
  refine sr_rd rfl (rd_loads agg_api_Node (ev_t rfl) rfl (fun _ => B1.row)) ?_
  refine sr_pure rfl (rc_call go_r03_Count ev_f (args_cons (ev_t rfl) (args_nil)) rfl) (rcount_ok t v D _ (hk.grow g) (by omega)) (fun w7 g7 => ?_)
  have g := g.trans (g7)
  replace B1 := B1.grow (g7)
  try have hk10 := hk10.grow (g7)
  try have hk12 := hk12.grow (g7)
  try have hk14 := hk14.grow (g7)
  refine sr_pu rfl (fun _ => rd_gt (ev_t rfl) ev_c) ?_
  refine sr_sub [(1, _, _), (2, _, _), (8, _, _)] (sub_cons rfl (sub_cons rfl (sub_cons rfl (sub_nil _)))) ?_
  refine sr_nil (hK5 _ _ ?_)
  refine sc_cond (ev_t rfl) (fun h2 => ?_) (fun h2 => ?_)
  · (try simp only [bsimp] at h2)
    refine sc_seq fun K6 hK6 => ?_
    refine sc_text [3] ?_
    refine sr_pu rfl (fun _ => rd_assign ev_c) ?_
    refine sr_sub [(1, _, _), (2, _, _)] (sub_cons rfl (sub_cons rfl (sub_nil _))) ?_
    refine sr_nil (hK6 _ _ ?_)
    refine sc_ret (t_ret1 rfl rfl ?_)
    exact ⟨rfl, g⟩
  replace h2 : count t ≤ 250 := by simp only [decide_eq_false_iff_not] at h2; omega
  refine sc_skip (hK4 _ _ ?_)
  refine sc_sub [(1, _, _), (2, _, _)] (sub_cons rfl (sub_cons rfl (sub_nil _))) ?_
  refine sc_seq fun K7 hK7 => ?_
  refine sc_text [0, 1, 1, 2] ?_
  refine sr_rd rfl (rd_loads agg_api_Node (ev_t rfl) rfl (fun _ => B1.row)) ?_
  refine sr_call rfl (rc_call go_r03_Copy ev_f (args_cons (ev_t rfl) (args_nil)) rfl) (rcopy_ok t v D _ (hk.grow g) (by omega) (by omega)) ?_
  rintro v10 w10 ⟨⟨p10, c10, rfl, hk10⟩, g10⟩
  refine ⟨fun _ => g10, ?_⟩
  have g := g.trans g10
  replace hk10 := hk10.lt
  replace B1 := B1.grow (g10)
  try have hk10 := hk10.grow (g10)
  try have hk12 := hk12.grow (g10)
  try have hk14 := hk14.grow (g10)
  refine sr_alloc rfl ze_api_Node rfl ?_
  intro b3 w3 N3
  have x3_1 := N3.ne B1
  have l3 := N3.ge g
  have g := g.trans (N3.g)
  replace B1 := B1.grow (N3.g)
  try have hk10 := hk10.grow (N3.g)
  try have hk12 := hk12.grow (N3.g)
  try have hk14 := hk14.grow (N3.g)
  have B3 := N3.blk
  refine sr_store_all rfl sz_api_Node (ev_t rfl) (ev_t rfl) rfl rfl B3 rfl rfl ?_
  intro wS1 hgS1 hzS1
  clear B3
  intro B3
  replace B1 := B1.keep hgS1 (by intro h; injection h with h; first | exact x3_1 h.symm | exact x1_3 h | omega)
  have g := g_only g hgS1 (by intro k hk; injection hk with hk; omega)
  have hk10 := hk10.keep hgS1 (fun b hb _ e => by injection e with e; have := hb.2; have := N3.at_; omega)
  refine sr_sub [(1, _, _), (2, _, _), (3, _, _)] (sub_cons rfl (sub_cons rfl (sub_cons rfl (sub_nil _)))) ?_
  refine sr_nil (hK7 _ _ ?_)
  refine sc_seq fun K8 hK8 => ?_
  skip
  refine sc_draw [0, 1, 0, 1, 1, 3, 0, 0, 1, 3, 3] [true, true, false, true, true, true, true, true, true, true, true] [0, 1, 0, 7, 15, 31, 63, 63, 255, 511, 1023] mix (by kernel_rfl) ?_
  have g := g.trans (G.drew _)
  replace B1 := B1.grow (G.drew _)
  replace B3 := B3.grow (G.drew _)
  try have hk10 := hk10.grow (G.drew _)
  try have hk12 := hk12.grow (G.drew _)
  try have hk14 := hk14.grow (G.drew _)
  have C1 := B1
  have C3 := B3
  refine sr_rd rfl (rd_loads agg_api_Node (ev_t rfl) rfl (fun _ => B3.row)) ?_
  refine sr_call rfl (rc_call go_fold_File ev_f (args_cons (ev_t rfl) (args_nil)) rfl) (ffile_ok t _ _ _ (hL.grow g) (by have := g.size; omega) hk10 (by omega)) ?_
  rintro v12 w12 ⟨⟨p12, c12, rfl, hk12⟩, g12⟩
  refine ⟨fun _ => g12, ?_⟩
  have g := g.trans g12
  have hk10 := hk10.grow g12
  replace B1 := B1.grow (g12)
  replace B3 := B3.grow (g12)
  try have hk10 := hk10.grow (g12)
  try have hk12 := hk12.grow (g12)
  try have hk14 := hk14.grow (g12)
  refine sr_rd0 rfl (rd_loads agg_api_Node (ev_t rfl) rfl (fun _ => C1.row)) ?_
  refine sr_call rfl (rc_call go_r07_File ev_f (args_cons (ev_t rfl) (args_nil)) rfl) (rffile_ok t v D _ (hk.grow g) (by omega)) ?_
  rintro v14 w14 ⟨⟨p14, c14, rfl, hk14⟩, g14⟩
  refine ⟨fun _ => g14, ?_⟩
  have g := g.trans g14
  have hk10 := hk10.grow g14
  have hk12 := hk12.grow g14
  replace B1 := B1.grow (g14)
  replace B3 := B3.grow (g14)
  try have hk10 := hk10.grow (g14)
  try have hk12 := hk12.grow (g14)
  try have hk14 := hk14.grow (g14)
  refine sr_pure rfl (rc_call go_r03_Same ev_f (args_cons (ev_t rfl) (args_cons (ev_t rfl) (args_nil))) rfl) (rsame_ok (fileT t) _ _ (fileT t) _ _ _ hk12 hk14 (by omega)) (fun w15 g15 => ?_)
  have g := g.trans (g15)
  replace B1 := B1.grow (g15)
  replace B3 := B3.grow (g15)
  try have hk10 := hk10.grow (g15)
  try have hk12 := hk12.grow (g15)
  try have hk14 := hk14.grow (g15)
  refine sr_pu rfl (fun _ => rd_move (ev_t rfl)) ?_
  refine sr_rdg rfl rfl rfl (rd_loads agg_api_Node (ev_t rfl) rfl (fun _ => B3.row)) ?_
  refine sr_rdg rfl rfl rfl (rd_loads agg_api_Node (ev_t rfl) rfl (fun _ => B1.row)) ?_
  refine sr_pureg rfl rfl rfl (fun _ => (rc_call go_r03_Same ev_f (args_cons (ev_u rfl id) (args_cons (ev_u rfl id) (args_nil))) rfl)) (fun hc => rsame_ok t _ _ t v D _ hk10 (hk.grow g) (by omega)) (fun w19 g19 => ?_)
  have g := g.trans (g19)
  replace B1 := B1.grow (g19)
  replace B3 := B3.grow (g19)
  try have hk10 := hk10.grow (g19)
  try have hk12 := hk12.grow (g19)
  try have hk14 := hk14.grow (g19)
  refine sr_pu rfl (fun _ => rd_pick_and (ev_t rfl) (ev_u rfl id)) ?_
  refine sr_pu rfl (fun _ => rd_assign (ev_t rfl)) ?_
  refine sr_sub [(2, _, _)] (sub_cons rfl (sub_nil _)) ?_
  refine sr_nil (hK8 _ _ ?_)
  refine sc_ret (t_ret1 rfl rfl ?_)
  refine ⟨congrArg Value.bool ?_, g⟩
  simp [smB_refl]
end Go.Rk
