/- The law of Join. Conditions: what start-up laid; the tokens' texts are bounded. -/
import Derived.Test.YtpbnkinfkkokfaaDoorScanJw
import Derived.Test.YtpbnkinfkkokfaaDoorByt
namespace Go.Rk
open Go Go.RowKit
theorem joinF_jl (l : List Tok) : (joinF l).length ≤ jl l := by
  cases l with
  | nil => exact Nat.le_refl _
  | cons t l => rw [joinF_tail, List.length_append, joinTail_len]; simp [jl]
theorem toksCells_one (l : List Tok) : ∀ u ∈ toksCells l, u.oneCell' = true := by
  intro u hu
  unfold toksCells at hu
  obtain ⟨t, _, ht⟩ := List.mem_flatMap.mp hu
  exact tokCells_one t u ht
theorem join_law (l : List Tok) (v : Value) (s : List UInt8) (w : World) (hL : Laid w) (hb3 : 3 ≤ w.heap.size) (hR : RowT l v w) (hjl : jl l ≤ 1048576) : Ret PP fn_l02_ScanJoin #[v, Str s] w fun v w' => v = .bool true ∧ G w w' := by
  obtain ⟨x, c, rfl, hrow⟩ := hR
  have g := G.refl w
  have hj := joinF_jl l
  have hrow0 := hrow
  refine ret_of_sc (m := 50) func_l02_ScanJoin rfl rfl [(0, True, _), (1, True, _)] (sub_cons rfl (sub_cons rfl (sub_nil _))) ?_
  refine sc_seq fun K1 hK1 => ?_
  refine sc_text [3] ?_
  refine sr_pu rfl (fun _ => rd_assign ev_c) ?_
  refine sr_nil (hK1 _ _ ?_)
  refine sc_seq fun K2 hK2 => ?_
  refine sc_seq fun K3 hK3 => ?_
  refine sc_text [1, 3] ?_
  refine sr_pure rfl (rc_call go_l02_awake ev_f (args_nil) rfl) (awake_ok _ (hL.grow g) (by have := g.size; omega)) (fun w11 g11 => ?_)
  have g := g.trans (g11)
  refine sr_pu rfl (fun _ => rd_not (ev_t rfl)) ?_
  refine sr_sub [(0, _, _), (1, _, _), (4, _, _), (12, _, _)] (sub_cons rfl (sub_cons rfl (sub_cons rfl (sub_cons rfl (sub_nil _))))) ?_
  refine sr_nil (hK3 _ _ ?_)
  refine sc_false (ev_t rfl) ?_
  refine sc_skip (hK2 _ _ ?_)
  refine sc_sub [(0, _, _), (1, _, _), (4, _, _)] (sub_cons rfl (sub_cons rfl (sub_cons rfl (sub_nil _)))) ?_
  refine sc_seq fun K4 hK4 => ?_
  refine sc_seq fun K5 hK5 => ?_
  refine sc_text [3, 3, 3, 3, 3, 3, 3, 3] ?_
  refine sr_pu rfl (fun _ => rd_move (ev_t rfl)) ?_
  refine sr_pu rfl (fun _ => rd_len el_sl_api_Token (ev_t rfl)) ?_
  refine sr_pu rfl (fun _ => rd_gt (ev_t rfl) ev_c) ?_
  refine sr_pu rfl (fun _ => rd_move (ev_t rfl)) ?_
  refine sr_pug rfl rfl rfl (fun _ => rd_move (ev_t rfl)) ?_
  refine sr_pug rfl rfl rfl (fun _ => rd_slen str_string (ev_u rfl id)) ?_
  refine sr_pug rfl rfl rfl (fun _ => rd_gt (ev_u rfl id) ev_c) ?_
  refine sr_pu rfl (fun _ => rd_pick_or (ev_t rfl) (ev_u rfl id)) ?_
  refine sr_sub [(0, _, _), (1, _, _), (4, _, _), (20, _, _)] (sub_cons rfl (sub_cons rfl (sub_cons rfl (sub_cons rfl (sub_nil _))))) ?_
  refine sr_nil (hK5 _ _ ?_)
  refine sc_cond (ev_t rfl) (fun h2 => ?_) (fun h2 => ?_)
  · (try simp only [bsimp] at h2)
    refine sc_seq fun K6 hK6 => ?_
    refine sc_text [3] ?_
    refine sr_pu rfl (fun _ => rd_assign ev_c) ?_
    refine sr_sub [(0, _, _), (1, _, _), (4, _, _)] (sub_cons rfl (sub_cons rfl (sub_cons rfl (sub_nil _)))) ?_
    refine sr_nil (hK6 _ _ ?_)
    refine sc_ret (t_ret1 rfl rfl ?_)
    exact ⟨rfl, g⟩
  · have hs : l.length ≤ 50 ∧ s.length ≤ 300 := by simp only [Bool.or_eq_false_iff, decide_eq_false_iff_not] at h2; omega
    refine sc_skip (hK4 _ _ ?_)
    refine sc_sub [(0, _, _), (1, _, _), (4, _, _)] (sub_cons rfl (sub_cons rfl (sub_cons rfl (sub_nil _)))) ?_
    refine sc_seq fun K7 hK7 => ?_
    refine sc_seq fun K8 hK8 => ?_
    refine sc_text [1, 3, 2, 1, 3, 1, 3] ?_
    refine sr_build0 rfl el_sl_api_Token ?_
    intro b21 w21 hb21 hown g21
    have z21 := g.size
    have hown := hown w.heap.size z21
    have g := g.trans g21
    have z22 := g.size
    have hrow : 0 < l.length → ∃ b o, x = some ⟨b, o, none⟩ ∧ RowAt w21 b o (toksCells l) := fun h => by obtain ⟨b, o, e, r⟩ := hrow h; exact ⟨b, o, e, r.grow g⟩
    refine sr_pu rfl (fun _ => rd_move (ev_t rfl)) ?_
    refine sr_appendr rfl el_sl_api_Token ze_api_Token rfl (by decide) (ev_t rfl) hown (ev_t rfl) (toksCells_length l) hrow (fun u hu => toksCells_one l u hu) (by simp only [maxLen]; omega) (by omega) z22 ?_
    intro ta' tc' w23 ht23 hg23
    have ht23 : w23.ownsRow w.heap.size ty_api_Token 3 (.slice ta' (0 + l.length) tc') (0 + l.length) (toksCells l) := ht23
    have g : G w w23 := below_only g hg23 z22 (fun k hk => (hown.lt k hk).1)
    rw [show 0 + l.length = l.length from Nat.zero_add _] at ht23 ⊢
    have hR23 : RowT l (.slice ta' l.length tc') w23 := Toks.row ht23
    have hR0 : RowT l (.slice x l.length c) w := ⟨x, c, rfl, hrow0⟩
    refine sr_pure rfl (rc_call go_scan_Join ev_f (args_cons (ev_t rfl) (args_nil)) rfl) (join_ok l _ _ (by omega) hR23 (by omega)) (fun w24 g24 => ?_)
    have g := g.trans (g24)
    refine sr_pu rfl (fun _ => rd_move (ev_t rfl)) ?_
    refine sr_pure rfl (rc_call go_r02_Join ev_f (args_cons (ev_t rfl) (args_nil)) rfl) (rjoin_ok l _ _ (by omega) (hR0.grow g) (by omega)) (fun w26 g26 => ?_)
    have g := g.trans (g26)
    refine sr_pu rfl (fun _ => rd_sne (ev_t rfl) (ev_t rfl)) ?_
    refine sr_sub [(1, _, _), (4, _, _), (27, _, _)] (sub_cons rfl (sub_cons rfl (sub_cons rfl (sub_nil _)))) ?_
    refine sr_nil (hK8 _ _ ?_)
    refine sc_cond (ev_t rfl) (fun h3 => ?_) (fun h3 => ?_)
    · exfalso; simp at h3
      done
    · skip
      refine sc_skip (hK7 _ _ ?_)
      refine sc_sub [(1, _, _), (4, _, _)] (sub_cons rfl (sub_cons rfl (sub_nil _))) ?_
      refine sc_seq fun K9 hK9 => ?_
      refine sc_text [3, 1, 3, 3, 3, 3, 3, 3, 3] ?_
      refine sr_pu rfl (fun _ => rd_move (ev_t rfl)) ?_
      refine sr_call rfl (rc_call go_scan_Scan ev_f (args_cons (ev_t rfl) (args_nil)) rfl) (scan_ok s _ (hL.grow g) (by have := g.size; omega)) ?_
      rintro v30 w30 ⟨l1, rfl, hT1, g30⟩
      refine ⟨fun _ => g30, ?_⟩
      have g := g.trans g30
      have hR1 := hT1.row
      refine sr_pu rfl (fun _ => rd_move (ev_t rfl)) ?_
      refine sr_pu rfl (fun _ => rd_extract (ev_t rfl) rfl) ?_
      refine sr_pu rfl (fun _ => rd_extract (ev_t rfl) rfl) ?_
      refine sr_pu rfl (fun _ => rd_extract (ev_t rfl) rfl) ?_
      refine sr_pu rfl (fun _ => rd_assign (ev_t rfl)) ?_
      refine sr_pu rfl (fun _ => rd_assign (ev_t rfl)) ?_
      refine sr_pu rfl (fun _ => rd_assign (ev_t rfl)) ?_
      refine sr_sub [(4, _, _), (5, _, _), (7, _, _)] (sub_cons rfl (sub_cons rfl (sub_cons rfl (sub_nil _)))) ?_
      refine sr_nil (hK9 _ _ ?_)
      refine sc_seq fun K10 hK10 => ?_
      refine sc_seq fun K11 hK11 => ?_
      refine sc_text [3, 3] ?_
      refine sr_pu rfl (fun _ => rd_move (ev_t rfl)) ?_
      refine sr_pu rfl (fun _ => rd_ne (ev_t rfl) ev_c) ?_
      refine sr_sub [(4, _, _), (5, _, _), (35, _, _)] (sub_cons rfl (sub_cons rfl (sub_cons rfl (sub_nil _)))) ?_
      refine sr_nil (hK11 _ _ ?_)
      refine sc_cond (ev_t rfl) (fun h4 => ?_) (fun h4 => ?_)
      · (try simp only [bsimp] at h4)
        refine sc_seq fun K12 hK12 => ?_
        refine sc_text [3] ?_
        refine sr_pu rfl (fun _ => rd_assign ev_c) ?_
        refine sr_sub [(4, _, _), (5, _, _)] (sub_cons rfl (sub_cons rfl (sub_nil _))) ?_
        refine sr_nil (hK12 _ _ ?_)
        refine sc_ret (t_ret1 rfl rfl ?_)
        exact ⟨rfl, g⟩
      · have he : (scanF s).2.2 = 0 := by simpa using h4
        obtain ⟨j1, j2, j3⟩ := scan_join hs.2 he
        have j4 := joinF_jl (scanF s).1
        have hlen := scanF_len s (by omega)
        refine sc_skip (hK10 _ _ ?_)
        refine sc_sub [(4, _, _), (5, _, _)] (sub_cons rfl (sub_cons rfl (sub_nil _))) ?_
        refine sc_seq fun K13 hK13 => ?_
        refine sc_text [3, 1, 1, 3, 3, 3, 3, 3, 3, 3] ?_
        refine sr_pu rfl (fun _ => rd_move (ev_t rfl)) ?_
        refine sr_pure rfl (rc_call go_scan_Join ev_f (args_cons (ev_t rfl) (args_nil)) rfl) (join_ok (scanF s).1 _ _ (by omega) hR1 (by omega)) (fun w38 g38 => ?_)
        have g := g.trans g38
        have hR1 := hR1.grow g38
        refine sr_call rfl (rc_call go_scan_Scan ev_f (args_cons (ev_t rfl) (args_nil)) rfl) (scan_ok (joinF (scanF s).1) _ (hL.grow g) (by have := g.size; omega)) ?_
        rintro v39 w39 ⟨l2, rfl, hT2, g39⟩
        refine ⟨fun _ => g39, ?_⟩
        have g := g.trans g39
        have hR1 := hR1.grow g39
        have hR2 := hT2.row
        have hl2 := scanF_len (joinF (scanF s).1) (by omega)
        rw [j2]
        refine sr_pu rfl (fun _ => rd_move (ev_t rfl)) ?_
        refine sr_pu rfl (fun _ => rd_extract (ev_t rfl) rfl) ?_
        refine sr_pu rfl (fun _ => rd_extract (ev_t rfl) rfl) ?_
        refine sr_pu rfl (fun _ => rd_extract (ev_t rfl) rfl) ?_
        refine sr_pu rfl (fun _ => rd_assign (ev_t rfl)) ?_
        refine sr_pu rfl (fun _ => rd_assign (ev_t rfl)) ?_
        refine sr_pu rfl (fun _ => rd_assign (ev_t rfl)) ?_
        refine sr_sub [(4, _, _), (5, _, _), (8, _, _), (10, _, _)] (sub_cons rfl (sub_cons rfl (sub_cons rfl (sub_cons rfl (sub_nil _))))) ?_
        refine sr_nil (hK13 _ _ ?_)
        refine sc_seq fun K14 hK14 => ?_
        refine sc_text [3, 3, 3, 3, 3, 1, 3, 3] ?_
        refine sr_pu rfl (fun _ => rd_move (ev_t rfl)) ?_
        refine sr_pu rfl (fun _ => rd_eq (ev_t rfl) ev_c) ?_
        refine sr_pu rfl (fun _ => rd_move (ev_t rfl)) ?_
        refine sr_pug rfl rfl rfl (fun _ => rd_move (ev_t rfl)) ?_
        refine sr_pug rfl rfl rfl (fun _ => rd_move (ev_t rfl)) ?_
        refine sr_pureg rfl rfl rfl (fun _ => (rc_call go_r02_Alike ev_f (args_cons (ev_u rfl id) (args_cons (ev_u rfl id) (args_nil))) rfl)) (fun hc => alike_ok _ _ _ _ _ hR2 hR1 (by omega) j3) (fun w48 g48 => ?_)
        have g := g.trans (g48)
        refine sr_pu rfl (fun _ => rd_pick_and (ev_t rfl) (ev_u rfl id)) ?_
        refine sr_pu rfl (fun _ => rd_assign (ev_t rfl)) ?_
        refine sr_sub [(4, _, _)] (sub_cons rfl (sub_nil _)) ?_
        refine sr_nil (hK14 _ _ ?_)
        refine sc_ret (t_ret1 rfl rfl ?_)
        exact ⟨rfl, g⟩
end Go.Rk
