/- The law of a concatenation. Conditions: what start-up laid. -/
import Derived.Test.YtpbnkinfkkokfaaDoorScanCat
import Derived.Test.YtpbnkinfkkokfaaDoorScanQ
namespace Go.Rk
open Go Go.RowKit
def catL (l m : List Tok) (N i : Nat) : List Tok := l ++ (m.take i).map (sh N)
theorem catL_succ {l m : List Tok} {N i : Nat} (h : i < m.length) : catL l m N (i + 1) = catL l m N i ++ [sh N (m.getD i tok0)] := by
  rw [catL, catL, take_getD h, List.map_append, List.append_assoc]; rfl
theorem concat_law (a b : List UInt8) (w : World) (hL : Laid w) (hb3 : 3 ≤ w.heap.size) : Ret PP fn_l02_ScanConcatenation #[Str a, Str b] w fun v w' => v = .bool true ∧ G w w' := by
  have g := G.refl w
  refine ret_of_sc (m := 81) func_l02_ScanConcatenation rfl rfl [(0, True, _), (1, True, _)] (sub_cons rfl (sub_cons rfl (sub_nil _))) ?_
  refine sc_seq fun K1 hK1 => ?_
  refine sc_text [3] ?_
  refine sr_pu rfl (fun _ => rd_assign ev_c) ?_
  refine sr_nil (hK1 _ _ ?_)
  refine sc_seq fun K2 hK2 => ?_
  refine sc_seq fun K3 hK3 => ?_
  refine sc_text [1, 3] ?_
  refine sr_pure rfl (rc_call go_l02_awake ev_f (args_nil) rfl) (awake_ok _ (hL.grow g) (by have := g.size; omega)) (fun w16 g16 => ?_)
  have g := g.trans (g16)
  refine sr_pu rfl (fun _ => rd_not (ev_t rfl)) ?_
  refine sr_sub [(0, _, _), (1, _, _), (4, _, _), (17, _, _)] (sub_cons rfl (sub_cons rfl (sub_cons rfl (sub_cons rfl (sub_nil _))))) ?_
  refine sr_nil (hK3 _ _ ?_)
  refine sc_false (ev_t rfl) ?_
  refine sc_skip (hK2 _ _ ?_)
  refine sc_sub [(0, _, _), (1, _, _), (4, _, _)] (sub_cons rfl (sub_cons rfl (sub_cons rfl (sub_nil _)))) ?_
  refine sc_seq fun K4 hK4 => ?_
  refine sc_seq fun K5 hK5 => ?_
  refine sc_text [3, 3, 3, 3, 3, 3, 3, 3] ?_
  refine sr_pu rfl (fun _ => rd_move (ev_t rfl)) ?_
  refine sr_pu rfl (fun _ => rd_slen str_string (ev_t rfl)) ?_
  refine sr_pu rfl (fun _ => rd_gt (ev_t rfl) ev_c) ?_
  refine sr_pu rfl (fun _ => rd_move (ev_t rfl)) ?_
  refine sr_pug rfl rfl rfl (fun _ => rd_move (ev_t rfl)) ?_
  refine sr_pug rfl rfl rfl (fun _ => rd_slen str_string (ev_u rfl id)) ?_
  refine sr_pug rfl rfl rfl (fun _ => rd_gt (ev_u rfl id) ev_c) ?_
  refine sr_pu rfl (fun _ => rd_pick_or (ev_t rfl) (ev_u rfl id)) ?_
  refine sr_sub [(0, _, _), (1, _, _), (4, _, _), (25, _, _)] (sub_cons rfl (sub_cons rfl (sub_cons rfl (sub_cons rfl (sub_nil _))))) ?_
  refine sr_nil (hK5 _ _ ?_)
  refine sc_cond (ev_t rfl) (fun h2 => ?_) (fun h2 => ?_)
  · (try simp only [bsimp] at h2)
    refine sc_seq fun K6 hK6 => ?_
    refine sc_text [3] ?_
    refine sr_pu rfl (fun _ => rd_assign ev_c) ?_
    refine sr_sub [(0, _, _), (1, _, _), (4, _, _)] (sub_cons rfl (sub_cons rfl (sub_cons rfl (sub_nil _)))) ?_
    refine sr_nil (hK6 _ _ ?_)
    refine sc_ret (t_ret1 rfl rfl ?_)
    exact ⟨rfl, g⟩
  · have hs : a.length ≤ 300 ∧ b.length ≤ 300 := by simp only [Bool.or_eq_false_iff, decide_eq_false_iff_not] at h2; omega
    have lA : (a ++ [10]).length = a.length + 1 := by simp
    have z1 := g.size
    refine sc_skip (hK4 _ _ ?_)
    refine sc_sub [(0, _, _), (1, _, _), (4, _, _)] (sub_cons rfl (sub_cons rfl (sub_cons rfl (sub_nil _)))) ?_
    refine sc_seq fun K7 hK7 => ?_
    refine sc_text [3, 3, 3] ?_
    refine sr_pu rfl (fun _ => rd_move (ev_t rfl)) ?_
    refine sr_pu rfl (fun _ => rd_scat (ev_t rfl) ev_c (fun _ => by show a.length + 1 ≤ 9223372036854775807; omega)) ?_
    refine sr_pu rfl (fun _ => rd_assign (ev_t rfl)) ?_
    refine sr_sub [(0, _, _), (1, _, _), (4, _, _)] (sub_cons rfl (sub_cons rfl (sub_cons rfl (sub_nil _)))) ?_
    refine sr_nil (hK7 _ _ ?_)
    refine sc_seq fun K8 hK8 => ?_
    refine sc_text [3, 1, 3, 3, 3, 3, 3, 3, 3] ?_
    refine sr_pu rfl (fun _ => rd_move (ev_t rfl)) ?_
    refine sr_call rfl (rc_call go_scan_Scan ev_f (args_cons (ev_t rfl) (args_nil)) rfl) (scan_ok (a ++ [10]) _ (hL.grow g) (by omega)) ?_
    rintro v30 w30 ⟨l1, rfl, hT1, g30⟩
    refine ⟨fun _ => g30, ?_⟩
    have g := g.trans g30
    have hT1 : w30.ownsRow w.heap.size ty_api_Token 3 l1 (scanF (a ++ [10])).1.length (toksCells (scanF (a ++ [10])).1) := own_base hT1 z1
    have z2 := g.size
    refine sr_pu rfl (fun _ => rd_move (ev_t rfl)) ?_
    refine sr_pu rfl (fun _ => rd_extract (ev_t rfl) rfl) ?_
    refine sr_pu rfl (fun _ => rd_extract (ev_t rfl) rfl) ?_
    refine sr_pu rfl (fun _ => rd_extract (ev_t rfl) rfl) ?_
    refine sr_pu rfl (fun _ => rd_assign (ev_t rfl)) ?_
    refine sr_pu rfl (fun _ => rd_assign (ev_t rfl)) ?_
    refine sr_pu rfl (fun _ => rd_assign (ev_t rfl)) ?_
    refine sr_sub [(0, _, _), (1, _, _), (4, _, _), (5, _, _), (7, _, _)] (sub_cons rfl (sub_cons rfl (sub_cons rfl (sub_cons rfl (sub_cons rfl (sub_nil _)))))) ?_
    refine sr_nil (hK8 _ _ ?_)
    refine sc_seq fun K9 hK9 => ?_
    refine sc_text [3, 1, 3, 3, 3, 3, 3, 3, 3] ?_
    refine sr_pu rfl (fun _ => rd_move (ev_t rfl)) ?_
    refine sr_call rfl (rc_call go_scan_Scan ev_f (args_cons (ev_t rfl) (args_nil)) rfl) (scan_ok b _ (hL.grow g) (by omega)) ?_
    rintro v36 w36 ⟨l2, rfl, hT2, g36⟩
    refine ⟨fun _ => g36, ?_⟩
    have n12 : ∀ k, l1.ownBlock = some k → l2.ownBlock ≠ some k := fun k e1 e2 => by have := (hT1.lt k e1).2; have := (World.ownsRow.lt hT2 k e2).1; omega
    have g := g.trans g36
    have hT1 := own_grow hT1 g36
    have hT2 : w36.ownsRow w.heap.size ty_api_Token 3 l2 (scanF b).1.length (toksCells (scanF b).1) := own_base hT2 z2
    have z3 := g.size
    refine sr_pu rfl (fun _ => rd_move (ev_t rfl)) ?_
    refine sr_pu rfl (fun _ => rd_extract (ev_t rfl) rfl) ?_
    refine sr_pu rfl (fun _ => rd_extract (ev_t rfl) rfl) ?_
    refine sr_pu rfl (fun _ => rd_extract (ev_t rfl) rfl) ?_
    refine sr_pu rfl (fun _ => rd_assign (ev_t rfl)) ?_
    refine sr_pu rfl (fun _ => rd_assign (ev_t rfl)) ?_
    refine sr_pu rfl (fun _ => rd_assign (ev_t rfl)) ?_
    refine sr_sub [(0, _, _), (1, _, _), (4, _, _), (5, _, _), (7, _, _), (8, _, _), (10, _, _)] (sub_cons rfl (sub_cons rfl (sub_cons rfl (sub_cons rfl (sub_cons rfl (sub_cons rfl (sub_cons rfl (sub_nil _)))))))) ?_
    refine sr_nil (hK9 _ _ ?_)
    refine sc_seq fun K10 hK10 => ?_
    refine sc_seq fun K11 hK11 => ?_
    refine sc_text [3, 3, 3, 3, 3, 3] ?_
    refine sr_pu rfl (fun _ => rd_move (ev_t rfl)) ?_
    refine sr_pu rfl (fun _ => rd_ne (ev_t rfl) ev_c) ?_
    refine sr_pu rfl (fun _ => rd_move (ev_t rfl)) ?_
    refine sr_pug rfl rfl rfl (fun _ => rd_move (ev_t rfl)) ?_
    refine sr_pug rfl rfl rfl (fun _ => rd_ne (ev_u rfl id) ev_c) ?_
    refine sr_pu rfl (fun _ => rd_pick_or (ev_t rfl) (ev_u rfl id)) ?_
    refine sr_sub [(0, _, _), (1, _, _), (4, _, _), (5, _, _), (8, _, _), (45, _, _)] (sub_cons rfl (sub_cons rfl (sub_cons rfl (sub_cons rfl (sub_cons rfl (sub_cons rfl (sub_nil _))))))) ?_
    refine sr_nil (hK11 _ _ ?_)
    refine sc_cond (ev_t rfl) (fun h3 => ?_) (fun h3 => ?_)
    · skip
      refine sc_seq fun K12 hK12 => ?_
      refine sc_text [3] ?_
      refine sr_pu rfl (fun _ => rd_assign ev_c) ?_
      refine sr_sub [(0, _, _), (1, _, _), (4, _, _), (5, _, _), (8, _, _)] (sub_cons rfl (sub_cons rfl (sub_cons rfl (sub_cons rfl (sub_cons rfl (sub_nil _)))))) ?_
      refine sr_nil (hK12 _ _ ?_)
      refine sc_ret (t_ret1 rfl rfl ?_)
      exact ⟨rfl, g⟩
    · have he : (scanF (a ++ [10])).2.2 = 0 ∧ (scanF b).2.2 = 0 := by simpa using h3
      have hcat := scan_cat (by omega) he.1 he.2
      have hord := scanF_order b (by omega) he.2
      have len1 := scanF_len (a ++ [10]) (by omega)
      have len2 := scanF_len b (by omega)
      refine sc_skip (hK10 _ _ ?_)
      refine sc_sub [(0, _, _), (1, _, _), (4, _, _), (5, _, _), (8, _, _)] (sub_cons rfl (sub_cons rfl (sub_cons rfl (sub_cons rfl (sub_cons rfl (sub_nil _)))))) ?_
      refine sc_seq fun K13 hK13 => ?_
      refine sc_text [3, 3, 3, 1, 3, 3, 3, 3, 3, 3, 3] ?_
      refine sr_pu rfl (fun _ => rd_move (ev_t rfl)) ?_
      refine sr_pu rfl (fun _ => rd_move (ev_t rfl)) ?_
      refine sr_pu rfl (fun _ => rd_scat (ev_t rfl) (ev_t rfl) (fun _ => by show (a ++ [10]).length + b.length ≤ 9223372036854775807; omega)) ?_
      refine sr_call rfl (rc_call go_scan_Scan ev_f (args_cons (ev_t rfl) (args_nil)) rfl) (scan_ok ((a ++ [10]) ++ b) _ (hL.grow g) (by omega)) ?_
      rintro v50 w50 ⟨l3, rfl, hT3, g50⟩
      refine ⟨fun _ => g50, ?_⟩
      have n13 : ∀ k, l1.ownBlock = some k → l3.ownBlock ≠ some k := fun k e1 e2 => by have := (hT1.lt k e1).2; have := (World.ownsRow.lt hT3 k e2).1; omega
      have g := g.trans g50
      have hT1 := own_grow hT1 g50
      have hT2 := own_grow hT2 g50
      have hT3 : w50.ownsRow w.heap.size ty_api_Token 3 l3 (scanF ((a ++ [10]) ++ b)).1.length (toksCells (scanF ((a ++ [10]) ++ b)).1) := own_base hT3 z3
      have len3 := scanF_len ((a ++ [10]) ++ b) (by rw [List.length_append]; omega)
      rw [List.length_append] at len3
      rw [hcat.1]
      have hcat := hcat.2
      generalize (scanF ((a ++ [10]) ++ b)).1 = al at hT3 hcat len3
      generalize (scanF b).1 = m at hT2 hcat hord len2
      generalize (scanF (a ++ [10])).1 = l at hT1 hcat len1
      obtain ⟨x1, c1, hv1, _⟩ := own_sl hT1
      subst hv1
      obtain ⟨x2, c2, hv2, _⟩ := own_sl hT2
      subst hv2
      have e0 : catL l m (a ++ [10]).length 0 = l := by simp [catL]
      refine sr_pu rfl (fun _ => rd_move (ev_t rfl)) ?_
      refine sr_pu rfl (fun _ => rd_extract (ev_t rfl) rfl) ?_
      refine sr_pu rfl (fun _ => rd_extract (ev_t rfl) rfl) ?_
      refine sr_pu rfl (fun _ => rd_extract (ev_t rfl) rfl) ?_
      refine sr_pu rfl (fun _ => rd_assign (ev_t rfl)) ?_
      refine sr_pu rfl (fun _ => rd_assign (ev_t rfl)) ?_
      refine sr_pu rfl (fun _ => rd_assign (ev_t rfl)) ?_
      refine sr_sub [(0, _, _), (4, _, _), (5, _, _), (8, _, _), (11, _, _), (13, _, _)] (sub_cons rfl (sub_cons rfl (sub_cons rfl (sub_cons rfl (sub_cons rfl (sub_cons rfl (sub_nil _))))))) ?_
      refine sr_nil (hK13 _ _ ?_)
      refine sc_seq fun K14 hK14 => ?_
      refine sc_seq fun K15 hK15 => ?_
      refine sc_text [3] ?_
      refine sr_pu rfl (fun _ => rd_assign ev_c) ?_
      refine sr_nil (hK15 _ _ ?_)
      refine sc_block ?_
      refine sc_loop (fun (x : Nat × Option Addr × Nat) u => x.1 ≤ m.length ∧ u.ownsRow w.heap.size ty_api_Token 3 (.slice x.2.1 (catL l m (a ++ [10]).length x.1).length x.2.2) (catL l m (a ++ [10]).length x.1).length (toksCells (catL l m (a ++ [10]).length x.1)) ∧
        u.ownsRow w.heap.size ty_api_Token 3 (.slice x2 m.length c2) m.length (toksCells m) ∧ u.ownsRow w.heap.size ty_api_Token 3 l3 al.length (toksCells al) ∧ (∀ k, (Value.slice x.2.1 (catL l m (a ++ [10]).length x.1).length x.2.2).ownBlock = some k → (Value.slice x2 m.length c2).ownBlock ≠ some k) ∧
        (∀ k, (Value.slice x.2.1 (catL l m (a ++ [10]).length x.1).length x.2.2).ownBlock = some k → l3.ownBlock ≠ some k) ∧ G w u)
        (fun x => [(0, True, Str (a ++ [10])), (5, True, .slice x.2.1 (catL l m (a ++ [10]).length x.1).length x.2.2), (8, True, .slice x2 m.length c2), (11, True, l3), (13, True, .int .i64 0), (14, True, .int .i64 x.1)]) (fun x => m.length - x.1) (0, x1, c1)
        ⟨Nat.zero_le _, by simp only; rw [e0]; exact hT1, hT2, hT3, by simp only; rw [e0]; exact n12, by simp only; rw [e0]; exact n13, g⟩ (by simp only; rw [e0]; exact sub_cons rfl (sub_cons rfl (sub_cons rfl (sub_cons rfl (sub_cons rfl (sub_cons rfl (sub_nil _))))))) ?_
      rintro ⟨i, x5, c5⟩ u ⟨hi, h5, h8, h11, n12, n13, hw⟩
      replace hi : i ≤ m.length := hi
      replace h5 : u.ownsRow w.heap.size ty_api_Token 3 (.slice x5 (catL l m (a ++ [10]).length i).length c5) (catL l m (a ++ [10]).length i).length (toksCells (catL l m (a ++ [10]).length i)) := h5
      replace n12 : ∀ k, (Value.slice x5 (catL l m (a ++ [10]).length i).length c5).ownBlock = some k → (Value.slice x2 m.length c2).ownBlock ≠ some k := n12
      replace n13 : ∀ k, (Value.slice x5 (catL l m (a ++ [10]).length i).length c5).ownBlock = some k → l3.ownBlock ≠ some k := n13
      have g := G.refl u
      have len5 : (catL l m (a ++ [10]).length i).length = l.length + i := by rw [catL, List.length_append, List.length_map, List.length_take]; omega
      refine sc_seq fun K16 hK16 => ?_
      refine sc_seq fun K17 hK17 => ?_
      refine sc_text [3, 3, 3, 3] ?_
      refine sr_pu rfl (fun _ => rd_move (ev_t rfl)) ?_
      refine sr_pu rfl (fun _ => rd_move (ev_t rfl)) ?_
      refine sr_pu rfl (fun _ => rd_len el_sl_api_Token (ev_t rfl)) ?_
      refine sr_pu rfl (fun _ => rd_lt (ev_t rfl) (ev_t rfl)) ?_
      refine sr_sub [(0, _, _), (5, _, _), (8, _, _), (11, _, _), (13, _, _), (14, _, _), (57, _, _)] (sub_cons rfl (sub_cons rfl (sub_cons rfl (sub_cons rfl (sub_cons rfl (sub_cons rfl (sub_cons rfl (sub_nil _)))))))) ?_
      refine sr_nil (hK17 _ _ ?_)
      refine sc_cond (ev_t rfl) (fun h4 => ?_) (fun h4 => ?_)
      · replace h4 : i < m.length := by simp only [decide_eq_true_eq] at h4; omega
        obtain ⟨b2, c2', hv2, _, hrow, _⟩ := own_pos h8 (by omega)
        injection hv2 with hv2 _ _
        subst hv2
        have ht := row_tok hrow h4
        obtain ⟨q, ⟨hq1, hq2, hq3, hq4⟩, hq5⟩ := hord i h4
        have hsucc := catL_succ (l := l) (N := (a ++ [10]).length) h4
        have hlm : (catL l m (a ++ [10]).length (i + 1)).length = (catL l m (a ++ [10]).length i).length + 1 := by rw [hsucc]; simp
        generalize m.getD i tok0 = t at ht hq1 hq2 hq3 hsucc
        refine sc_skip (hK16 _ _ ?_)
        refine sc_sub [(0, _, _), (5, _, _), (8, _, _), (11, _, _), (13, _, _), (14, _, _)] (sub_cons rfl (sub_cons rfl (sub_cons rfl (sub_cons rfl (sub_cons rfl (sub_cons rfl (sub_nil _))))))) ?_
        refine sc_seq fun K18 hK18 => ?_
        refine sc_block ?_
        refine sc_seq fun K19 hK19 => ?_
        refine sc_text [3, 3, 3, 0, 1, 2] ?_
        refine sr_pu rfl (fun _ => rd_move (ev_t rfl)) ?_
        refine sr_pu rfl (fun _ => rd_move (ev_t rfl)) ?_
        refine sr_pu rfl (fun _ => rd_idx el_sl_api_Token (ev_t rfl) (ev_t rfl) (fun _ => by omega)) ?_
        refine sr_rd rfl (rd_loads agg_api_Token (ev_t rfl) rfl (fun _ => ht.grow g)) ?_
        refine sr_alloc rfl ze_api_Token rfl ?_
        intro b15 w15 N15
        have l15 := N15.ge g
        have g := g.trans (N15.g)
        have B15 := N15.blk
        refine sr_store rfl sz_api_Token (ev_t rfl) (ev_t rfl) rfl rfl B15 rfl rfl ?_
        intro wS1 hgS1 hzS1 B15
        have g := g_only g hgS1 (by intro k hk; injection hk with hk; omega)
        refine sr_sub [(0, _, _), (5, _, _), (8, _, _), (11, _, _), (13, _, _), (14, _, _), (15, _, _)] (sub_cons rfl (sub_cons rfl (sub_cons rfl (sub_cons rfl (sub_cons rfl (sub_cons rfl (sub_cons rfl (sub_nil _)))))))) ?_
        refine sr_nil (hK19 _ _ ?_)
        refine sc_seq fun K20 hK20 => ?_
        refine sc_text [3, 0, 3, 3, 3, 3, 2] ?_
        refine sr_pu rfl (fun _ => rd_field fo_api_Token_2 (ev_t rfl)) ?_
        refine sr_rd rfl (rd_load one_int (ev_t rfl) (fun _ => by first | assumption | exact B15.at_ rfl | exact B15.row)) ?_
        refine sr_pu rfl (fun _ => rd_move (ev_t rfl)) ?_
        refine sr_pu rfl (fun _ => rd_slen str_string (ev_t rfl)) ?_
        refine sr_pu rfl (fun _ => rd_add (ev_t rfl) (ev_t rfl) (fun _ => by show _ ≤ t.pos + ((a ++ [10]).length : Nat) ∧ t.pos + ((a ++ [10]).length : Nat) ≤ _; omega)) ?_
        refine sr_pu rfl (fun _ => rd_field fo_api_Token_2 (ev_t rfl)) ?_
        refine sr_store rfl sz_int (ev_t rfl) (ev_t rfl) rfl rfl B15 rfl rfl ?_
        intro wS2 hgS2 hzS2 B15
        have g := g_only g hgS2 (by intro k hk; injection hk with hk; omega)
        refine sr_sub [(0, _, _), (5, _, _), (8, _, _), (11, _, _), (13, _, _), (14, _, _), (15, _, _)] (sub_cons rfl (sub_cons rfl (sub_cons rfl (sub_cons rfl (sub_cons rfl (sub_cons rfl (sub_cons rfl (sub_nil _)))))))) ?_
        refine sr_nil (hK20 _ _ ?_)
        refine sc_text [3, 0, 1, 2, 3] ?_
        refine sr_pu rfl (fun _ => rd_move (ev_t rfl)) ?_
        refine sr_rd rfl (rd_loads agg_api_Token (ev_t rfl) rfl (fun _ => by first | assumption | exact B15.at_ rfl | exact B15.row)) ?_
        refine sr_buildSlice [_, _, _] rfl el_sl_api_Token ze_api_Token (parts_cons (ev_t rfl) (parts_nil)) rfl rfl ?_
        intro b72 w72 N72
        have x72_15 := N72.ne B15
        have l72 := N72.ge g
        have g := g.trans (N72.g)
        have B15 := B15.grow (N72.g)
        have B72 := N72.blk
        have h5 := own_grow h5 g
        have h8 := own_grow h8 g
        have h11 := own_grow h11 g
        have hw := hw.trans g
        have hz := hw.size
        refine sr_append rfl el_sl_api_Token ze_api_Token rfl (by decide) (ev_t rfl) h5 (ev_t rfl) rfl N72.blk.row rfl (by simp only [maxLen]; omega) (by omega) hz ?_
        intro ta' tc' w73 ht' hg73 hat
        have hw : G w w73 := below_only hw hg73 hz (fun k hk => (h5.lt k hk).1)
        have n12' := apart_append h8 n12 hat
        have n13' := apart_append h11 n13 hat
        have h8 := apart_row h8 n12 hg73
        have h11 := apart_row h11 n13 hg73
        have h5' : w73.ownsRow w.heap.size ty_api_Token 3 (.slice ta' ((catL l m (a ++ [10]).length i).length + 1) tc') ((catL l m (a ++ [10]).length i).length + 1) (toksCells (catL l m (a ++ [10]).length i) ++ tokCells (sh (a ++ [10]).length t)) := ht'
        rw [← toksCells_snoc, ← hsucc, ← hlm] at h5'
        rw [← hlm] at n12' n13'
        rw [← hlm]
        refine sr_pu rfl (fun _ => rd_assign (ev_t rfl)) ?_
        refine sr_sub [(0, _, _), (5, _, _), (8, _, _), (11, _, _), (13, _, _), (14, _, _)] (sub_cons rfl (sub_cons rfl (sub_cons rfl (sub_cons rfl (sub_cons rfl (sub_cons rfl (sub_nil _))))))) ?_
        refine sr_nil (hK18 _ _ ?_)
        refine sc_text [3, 3, 3] ?_
        refine sr_pu rfl (fun _ => rd_move (ev_t rfl)) ?_
        refine sr_pu rfl (fun _ => rd_add (ev_t rfl) ev_c (fun _ => by omega)) ?_
        refine sr_pu rfl (fun _ => rd_assign (ev_t rfl)) ?_
        refine sr_sub [(0, _, _), (5, _, _), (8, _, _), (11, _, _), (13, _, _), (14, _, _)] (sub_cons rfl (sub_cons rfl (sub_cons rfl (sub_cons rfl (sub_cons rfl (sub_cons rfl (sub_nil _))))))) ?_
        refine sr_nil (fun a ha => ?_)
        exact ⟨(i + 1, ta', tc'), ha, ⟨h4, h5', h8, h11, n12', n13', hw⟩, by show m.length - (i + 1) < m.length - i; omega⟩
      · have hi : i = m.length := by simp only [decide_eq_false_iff_not] at h4; omega
        subst hi
        have hfin : catL l m (a ++ [10]).length m.length = al := by rw [catL, List.take_length, hcat]
        have hR5 : RowT (catL l m (a ++ [10]).length m.length) (.slice x5 (catL l m (a ++ [10]).length m.length).length c5) u := Toks.row h5
        have hR11 : RowT al l3 u := Toks.row h11
        refine sc_exit rfl (hK14 _ _ ?_)
        refine sc_sub [(5, _, _), (11, _, _), (13, _, _)] (sub_cons rfl (sub_cons rfl (sub_cons rfl (sub_nil _)))) ?_
        refine sc_seq fun K21 hK21 => ?_
        refine sc_text [3, 3, 3, 3, 3, 1, 3, 3] ?_
        refine sr_pu rfl (fun _ => rd_move (ev_t rfl)) ?_
        refine sr_pu rfl (fun _ => rd_eq (ev_t rfl) ev_c) ?_
        refine sr_pu rfl (fun _ => rd_move (ev_t rfl)) ?_
        refine sr_pug rfl rfl rfl (fun _ => rd_move (ev_t rfl)) ?_
        refine sr_pug rfl rfl rfl (fun _ => rd_move (ev_t rfl)) ?_
        refine sr_pureg rfl rfl rfl (fun _ => (rc_call go_r02_Same ev_f (args_cons (ev_u rfl id) (args_cons (ev_u rfl id) (args_nil))) rfl)) (fun hc => same_ok al _ _ _ _ hR11 hR5 (by omega)) (fun w79 g79 => ?_)
        have hw := hw.trans g79
        refine sr_pu rfl (fun _ => rd_pick_and (ev_t rfl) (ev_u rfl id)) ?_
        refine sr_pu rfl (fun _ => rd_assign (ev_t rfl)) ?_
        refine sr_nil (hK21 _ _ ?_)
        refine sc_sub [(4, _, _), (5, _, _), (11, _, _), (13, _, _), (74, _, _), (75, _, _), (76, _, _), (77, _, _), (78, _, _), (79, _, _), (80, _, _)] (sub_cons rfl (sub_cons rfl (sub_cons rfl (sub_cons rfl (sub_cons rfl (sub_cons rfl (sub_cons rfl (sub_cons rfl (sub_cons rfl (sub_cons rfl (sub_cons rfl (sub_nil _)))))))))))) ?_
        refine sc_ret (t_ret1 rfl rfl ?_)
        refine ⟨congrArg Value.bool ?_, hw⟩
        rw [hfin, sameB_refl]; rfl
end Go.Rk
