/- Merged texts of one road: Dpl. Conditions: each text's own. -/
import Derived.Test.YteicjpedahoilaaDoorB11
set_option linter.unusedSimpArgs false
set_option linter.unusedVariables false
namespace Go.Rk
open Go Go.RowKit
set_option linter.unusedVariables false
theorem u8_lit {z : Int} (h : (Lit.int .u8 z).wf = true) : 0 ≤ z ∧ z ≤ 255 := by
  simp only [Lit.wf, Bool.and_eq_true, decide_eq_true_eq] at h
  exact h
theorem smp_nest {n : Nat} (h : n < 64) : count (smpB (nestN n)) ≤ 1000 := by
  have k : (List.range 64).all (fun n => Nat.ble (count (smpB (nestN n))) 1000) = true := by decide +kernel
  exact Nat.le_of_ble_eq_true (List.all_eq_true.1 k n (List.mem_range.2 h))
theorem sdepth_law (z : Int) (w : World) (hL : Laid w) (hb3 : 4 ≤ w.heap.size) (hT : TabP w) (hz : 0 ≤ z ∧ z ≤ 255) : Ret PP fn_l03_SyntaxDepth #[.int .u8 z] w fun r w' => r = .bool true ∧ G w w' := by
  obtain ⟨m, hm⟩ : ∃ m : Nat, m = (z.tmod 64).toNat := ⟨_, rfl⟩
  have hm1 : (m : Int) = z.tmod 64 := by rw [hm, Int.toNat_of_nonneg (Int.tmod_nonneg _ hz.1)]
  have hm2 : m < 64 := by
    have := Int.tmod_lt_of_pos z (by decide : (0 : Int) < 64)
    omega
  have g := G.refl w
  refine ret_of_sc (m := 35) func_l03_SyntaxDepth rfl rfl [(0, True, _)] (sub_cons rfl (sub_nil _)) ?_
  refine sc_seq fun K1 hK1 => ?_
  refine sc_text [3] ?_
  refine sr_pu rfl (fun _ => rd_assign ev_c) ?_
  refine sr_nil (hK1 _ _ ?_)
  refine sc_seq fun K2 hK2 => ?_
  refine sc_seq fun K3 hK3 => ?_
  refine sc_text [1, 3] ?_
  refine sr_call rfl (rc_call go_l03_awake ev_f (args_nil) rfl) (awake03_ok _ (hL.grow g) (by have := g.size; omega) (hT.grow g)) ?_
  rintro v7 w7 ⟨rfl, g7⟩
  refine ⟨fun _ => g7, ?_⟩
  have g := g.trans (g7)
  try have hkn := hkn.grow (g7)
  try have k6 := k6.grow (g7)
  try have k7 := k7.grow (g7)
  try have BA := BA.grow (g7)
  try have BB := BB.grow (g7)
  refine sr_pu rfl (fun _ => rd_not (ev_t rfl)) ?_
  refine sr_sub [(0, _, _), (2, _, _), (8, _, _)] (sub_cons rfl (sub_cons rfl (sub_cons rfl (sub_nil _)))) ?_
  refine sr_nil (hK3 _ _ ?_)
  refine sc_cond (ev_t rfl) (fun h1 => ?_) (fun h1 => ?_)
  · exfalso; cases h1
    done
  (try simp only [bsimp] at h1)
  refine sc_skip (hK2 _ _ ?_)
  refine sc_sub [(0, _, _), (2, _, _)] (sub_cons rfl (sub_cons rfl (sub_nil _))) ?_
  refine sc_seq fun K4 hK4 => ?_
  refine sc_text [3, 1, 2] ?_
  refine sr_pu rfl (fun _ => rd_build [_, _, _, _, _, _, _, _, _] ze_api_Node rfl pl_api_Node (parts_cons ev_c (parts_nil)) rfl) ?_
  refine sr_alloc rfl ze_api_Node rfl ?_
  intro b3 w3 N3
  have l3 := N3.ge g
  have g := g.trans (N3.g)
  try have hkn := hkn.grow (N3.g)
  try have k6 := k6.grow (N3.g)
  try have k7 := k7.grow (N3.g)
  try have BA := BA.grow (N3.g)
  try have BB := BB.grow (N3.g)
  have B3 := N3.blk
  refine sr_store_all rfl sz_api_Node (ev_t rfl) (ev_t rfl) rfl rfl B3 rfl rfl ?_
  intro wS1 hgS1 hzS1
  clear B3
  intro B3
  have g := g_only g hgS1 (by intro k hk; injection hk with hk; omega)
  try have hkn := hkn.keep hgS1 (fun b hb _ e => by injection e with e; exact hb.2 e)
  refine sr_sub [(0, _, _), (2, _, _), (3, _, _)] (sub_cons rfl (sub_cons rfl (sub_cons rfl (sub_nil _)))) ?_
  refine sr_nil (hK4 _ _ ?_)
  refine sc_seq fun K5 hK5 => ?_
  refine sc_text [3, 3, 3, 3] ?_
  refine sr_pu rfl (fun _ => rd_move (ev_t rfl)) ?_
  refine sr_pu rfl (fun _ => rd_remw (ev_t rfl) ev_c (fun _ => by omega)) ?_
  refine sr_pu rfl (fun _ => rd_convr (r := (m : Int)) ik_uint8 ik_int (ev_t rfl) (fun hc => by rw [hm1]; exact i64_id (by omega))) ?_
  refine sr_pu rfl (fun _ => rd_assign (ev_t rfl)) ?_
  refine sr_sub [(2, _, _), (3, _, _), (4, _, _)] (sub_cons rfl (sub_cons rfl (sub_cons rfl (sub_nil _)))) ?_
  refine sr_nil (hK5 _ _ ?_)
  refine sc_seq fun K6 hK6 => ?_
  refine sc_seq fun K7 hK7 => ?_
  refine sc_text [3] ?_
  refine sr_pu rfl (fun _ => rd_assign ev_c) ?_
  refine sr_nil (hK7 _ _ ?_)
  refine sc_block ?_
  refine sc_loop3 (fun (i : Nat) u1 => (i ≤ m ∧ ∃ v, Blk u1 b3 ty_api_Node (ndCells (nestN i) v) ∧ Kd u1 (fun k => w.heap.size ≤ k ∧ k ≠ b3) (nestN i).kids v) ∧ G w u1) _ [(2, True, _), (3, True, _), (4, True, _)] (fun (i : Nat) => [(5, True, .int .i64 i)]) (fun (i : Nat) => m - i) (0) ⟨⟨Nat.zero_le _, _, B3, kd_nil _ _⟩, g⟩ (nilE_mk _) (sub_cons rfl (sub_cons rfl (sub_cons rfl (sub_cons rfl (sub_nil _))))) ?_
  clear B3
  rintro i u1 ⟨hI1, gl1⟩ _
  have g := gl1
  obtain ⟨hi, v, B3, hkn⟩ := hI1
  obtain ⟨vp0, vc0, rfl, _⟩ := id hkn
  refine sc_seq fun K8 hK8 => ?_
  refine sc_seq fun K9 hK9 => ?_
  refine sc_text [3, 3, 3] ?_
  refine sr_pu rfl (fun _ => rd_move (ev_t rfl)) ?_
  refine sr_pu rfl (fun _ => rd_move (ev_t rfl)) ?_
  refine sr_pu rfl (fun _ => rd_lt (ev_t rfl) (ev_t rfl)) ?_
  refine sr_sub [(2, _, _), (3, _, _), (4, _, _), (5, _, _), (15, _, _)] (sub_cons rfl (sub_cons rfl (sub_cons rfl (sub_cons rfl (sub_cons rfl (sub_nil _)))))) ?_
  refine sr_nil (hK9 _ _ ?_)
  refine sc_cond (ev_t rfl) (fun h2 => ?_) (fun h2 => ?_)
  · replace h2 : i < m := by simp only [decide_eq_true_eq] at h2; omega
    refine sc_skip (hK8 _ _ ?_)
    refine sc_sub [(2, _, _), (3, _, _), (4, _, _), (5, _, _)] (sub_cons rfl (sub_cons rfl (sub_cons rfl (sub_cons rfl (sub_nil _))))) ?_
    refine sc_seq fun K10 hK10 => ?_
    refine sc_block ?_
    refine sc_text [0, 1, 3, 2] ?_
    refine sr_rd rfl (rd_loads agg_api_Node (ev_t rfl) rfl (fun _ => B3.row)) ?_
    refine sr_buildSlice [_, _, _, _, _, _, _, _, _] rfl el_sl_api_Node ze_api_Node (parts_cons (ev_t rfl) (parts_nil)) rfl rfl ?_
    intro b19 w19 N19
    have x19_3 := N19.ne B3
    have l19 := N19.ge g
    have g := g.trans (N19.g)
    replace B3 := B3.grow (N19.g)
    try have hkn := hkn.grow (N19.g)
    try have k6 := k6.grow (N19.g)
    try have k7 := k7.grow (N19.g)
    try have BA := BA.grow (N19.g)
    try have BB := BB.grow (N19.g)
    have B19 := N19.blk
    refine sr_pu rfl (fun _ => rd_build [_, _, _, _, _, _, _, _, _] ze_api_Node rfl pl_api_Node (parts_cons ev_c (parts_cons (ev_t rfl) (parts_nil))) rfl) ?_
    refine sr_store_all rfl sz_api_Node (ev_t rfl) (ev_t rfl) rfl rfl B3 rfl rfl ?_
    intro wS2 hgS2 hzS2
    clear B3
    intro B3
    replace B19 := B19.keep hgS2 (by intro h; injection h with h; first | exact x3_19 h.symm | exact x19_3 h | omega)
    have g := g_only g hgS2 (by intro k hk; injection hk with hk; omega)
    try have hkn := hkn.keep hgS2 (fun b hb _ e => by injection e with e; exact hb.2 e)
    refine sr_sub [(2, _, _), (3, _, _), (4, _, _), (5, _, _)] (sub_cons rfl (sub_cons rfl (sub_cons rfl (sub_cons rfl (sub_nil _))))) ?_
    refine sr_nil (hK10 _ _ ?_)
    refine sc_text [3, 3, 3] ?_
    refine sr_pu rfl (fun _ => rd_move (ev_t rfl)) ?_
    refine sr_pu rfl (fun _ => rd_add (ev_t rfl) ev_c (fun _ => by omega)) ?_
    refine sr_pu rfl (fun _ => rd_assign (ev_t rfl)) ?_
    refine sr_sub [(5, _, _), (2, _, _), (3, _, _), (4, _, _)] (sub_cons rfl (sub_cons rfl (sub_cons rfl (sub_cons rfl (sub_nil _))))) ?_
    refine sr_nil (fun a ha => ?_)
    exact ⟨i + 1, ha, ⟨⟨h2, _, B3, kd_one (t := nestN i) ⟨l19, x19_3⟩ B19 hkn⟩, g⟩, (nilE_mk _), by omega⟩
  replace h2 : i = m := by simp only [decide_eq_false_iff_not] at h2; omega
  subst h2
  replace hkn := hkn.lt
  have B3lt := B3.lt
  refine sc_exit rfl (hK6 _ _ ?_)
  refine sc_sub [(2, _, _), (3, _, _), (4, _, _)] (sub_cons rfl (sub_cons rfl (sub_cons rfl (sub_nil _)))) ?_
  refine sc_seq fun K11 hK11 => ?_
  refine sc_text [1, 1, 2] ?_
  refine sr_call rfl (rc_call go_l03_sample ev_f (args_nil) rfl) (sample2_ok _) ?_
  rintro v21 w21 ⟨⟨bA, bB, vv, vp, vb, rfl, BA, BB, hAB, lA, lB, k6, k7⟩, g21⟩
  refine ⟨fun _ => g21, ?_⟩
  have g := g.trans g21
  have g21s := g21.size
  have BAlt := BA.lt
  have BBlt := BB.lt
  replace k6 := k6.lt
  replace k7 := k7.lt
  replace B3 := B3.grow (g21)
  try have hkn := hkn.grow (g21)
  try have k6 := k6.grow (g21)
  try have k7 := k7.grow (g21)
  try have BA := BA.grow (g21)
  try have BB := BB.grow (g21)
  refine sr_alloc rfl ze_api_Node rfl ?_
  intro b6 w6 N6
  have x6_3 := N6.ne B3
  have l6 := N6.ge g
  have g := g.trans (N6.g)
  replace B3 := B3.grow (N6.g)
  try have hkn := hkn.grow (N6.g)
  try have k6 := k6.grow (N6.g)
  try have k7 := k7.grow (N6.g)
  try have BA := BA.grow (N6.g)
  try have BB := BB.grow (N6.g)
  have B6 := N6.blk
  refine sr_store_all rfl sz_api_Node (ev_t rfl) (ev_t rfl) rfl rfl B6 rfl rfl ?_
  intro wS3 hgS3 hzS3
  clear B6
  intro B6
  replace B3 := B3.keep hgS3 (by intro h; injection h with h; first | exact x6_3 h.symm | exact x3_6 h | omega)
  have g := g_only g hgS3 (by intro k hk; injection hk with hk; omega)
  have n6 := N6.at_
  have hkn := hkn.keep hgS3 (fun b hb _ e => by injection e with e; have := hb.2; omega)
  have k6 := k6.keep hgS3 (fun b hb _ e => by injection e with e; have := hb.2; omega)
  have k7 := k7.keep hgS3 (fun b hb _ e => by injection e with e; have := hb.2; omega)
  have BA := BA.keep hgS3 (by intro h; injection h with h; omega)
  have BB := BB.keep hgS3 (by intro h; injection h with h; omega)
  refine sr_nil (hK11 _ _ ?_)
  refine sc_sub [(2, _, _), (3, _, _), (4, _, _), (6, _, _), (21, _, _)] (sub_cons rfl (sub_cons rfl (sub_cons rfl (sub_cons rfl (sub_cons rfl (sub_nil _)))))) ?_
  refine sc_seq fun K12 hK12 => ?_
  refine sc_draw [3, 0, 3, 3, 0, 0, 3, 2] [true, true, true, true, true, true, true, true] [0, 1, 3, 7, 15, 0, 63, 127] mix (by kernel_rfl) ?_
  have g := g.trans (G.drew _)
  replace B3 := B3.grow (G.drew _)
  replace B6 := B6.grow (G.drew _)
  try have hkn := hkn.grow (G.drew _)
  try have k6 := k6.grow (G.drew _)
  try have k7 := k7.grow (G.drew _)
  try have BA := BA.grow (G.drew _)
  try have BB := BB.grow (G.drew _)
  refine sr_pu rfl (fun _ => rd_field fo_api_Node_4 (ev_t rfl)) ?_
  refine sr_rd rfl (rd_load one_sl_api_Node (ev_t rfl) (fun _ => B6.row.one (i := 4) rfl)) ?_
  refine sr_pu rfl (fun _ => rd_idx el_sl_api_Node (ev_t rfl) ev_c (fun _ => by omega)) ?_
  refine sr_pu rfl (fun _ => rd_field fo_api_Node_4 (ev_t rfl)) ?_
  refine sr_rd rfl (rd_load one_sl_api_Node (ev_t rfl) (fun _ => BA.row.one (i := 13) rfl)) ?_
  refine sr_rd rfl (rd_loads agg_api_Node (ev_t rfl) rfl (fun _ => B3.row)) ?_
  refine sr_pu rfl (fun _ => rd_idx el_sl_api_Node (ev_t rfl) ev_c (fun _ => by omega)) ?_
  refine sr_store rfl sz_api_Node (ev_t rfl) (ev_t rfl) rfl rfl BB rfl rfl ?_
  intro wX hgX hzX BB
  have hkn := hkn.keep hgX (fun b hb _ e => by injection e with e; have := hb.2; omega)
  have k6 := k6.keep hgX (fun b hb _ e => by injection e with e; exact hb.1.2.1 e)
  have k7 := k7.keep hgX (fun b hb _ e => by injection e with e; exact hb.1.2.1 e)
  have BA := BA.keep hgX (by intro h; injection h with h; exact hAB h.symm)
  have B3 := B3.keep hgX (by intro h; injection h with h; omega)
  have B6 := B6.keep hgX (by intro h; injection h with h; omega)
  have g := g_only g hgX (fun k hk => by injection hk with hk; omega)
  have kF : Kd wX (fun k => w.heap.size ≤ k) (smpB (nestN i)).kids (.slice (some ⟨bA, 0, none⟩) 2 2) :=
    kd_row (by omega) BA.row (krow_cons (t := varN) (k6.mono fun k h _ => by have := h.1.1; omega) (krow_one (t := fncN (nestN i)) (kd_row (ks := (fncN (nestN i)).kids) (by omega) BB.row (krow_cons (t := parN) (k7.mono fun k h _ => by have := h.1.1; omega) (krow_cons (t := ndT 7 [98, 111, 111, 108] []) (kd_nil _ _) (krow_one (t := nestN i) (hkn.mono fun k h _ => h.1.1)))) (Nat.le_refl _)))) (Nat.le_refl _)
  refine sr_nil (hK12 _ _ ?_)
  refine sc_seq fun K13 hK13 => ?_
  refine sc_text [0, 1, 3, 3, 3, 3, 3] ?_
  refine sr_rd rfl (rd_loads agg_api_Node (ev_t rfl) rfl (fun _ => B6.row)) ?_
  refine sr_pure rfl (rc_call go_syntax_Valid ev_f (args_cons (ev_t rfl) (args_nil)) rfl) (svalid_ok (smpB (nestN i)) _ _ _ (hL.grow g) (by have := g.size; omega) kF (by have := smp_nest hm2; omega)) (fun w30 g30 => ?_)
  have g := g.trans (g30)
  replace B3 := B3.grow (g30)
  replace B6 := B6.grow (g30)
  try have hkn := hkn.grow (g30)
  try have k6 := k6.grow (g30)
  try have k7 := k7.grow (g30)
  try have BA := BA.grow (g30)
  try have BB := BB.grow (g30)
  refine sr_pu rfl (fun _ => rd_move (ev_t rfl)) ?_
  refine sr_pu rfl (fun _ => rd_add (ev_t rfl) ev_c (fun _ => by omega)) ?_
  refine sr_pu rfl (fun _ => rd_le (ev_t rfl) ev_c) ?_
  refine sr_pu rfl (fun _ => rd_beq und_bool (ev_t rfl) (ev_t rfl)) ?_
  refine sr_pu rfl (fun _ => rd_assign (ev_t rfl)) ?_
  refine sr_nil (hK13 _ _ ?_)
  refine sc_ret (t_ret1 rfl rfl ?_)
  refine ⟨congrArg Value.bool ?_, g⟩
  rw [nest_valid hm2]; simp; omega
end Go.Rk
