/- The law about keywords. Conditions: what start-up laid. -/
import Derived.Test.YtpbnkinfkkokfaaDoorScanN
namespace Go.Rk
open Go Go.RowKit
def kwCheck (k : List UInt8) : Bool := decide ((scanF k).2.2 = 0) && (decide ((scanF k).1.length = 1) && tokB ((scanF k).1.getD 0 tok0) ⟨3, k, 0⟩)
theorem kw_all : kws.all kwCheck = true := by kernel_rfl
theorem kw_scan {s : List UInt8} (h : inB kws s = true) : (scanF s).2.2 = 0 ∧ (scanF s).1.length = 1 ∧ tokB ((scanF s).1.getD 0 tok0) ⟨3, s, 0⟩ = true := by
  rw [inB, List.any_eq_true] at h
  obtain ⟨k, hk, he⟩ := h
  have he := of_decide_eq_true he
  subst he
  have := List.all_eq_true.mp kw_all s hk
  simp only [kwCheck, Bool.and_eq_true, decide_eq_true_eq] at this
  exact this
theorem keywords_law (s : List UInt8) (w : World) (hL : Laid w) (hb3 : 3 ≤ w.heap.size) : Ret PP fn_l02_ScanKeywords #[Str s] w fun v w' => v = .bool true ∧ G w w' := by
  have g := G.refl w
  refine ret_of_sc (m := 41) func_l02_ScanKeywords rfl rfl [(0, True, _)] (sub_cons rfl (sub_nil _)) ?_
  refine sc_seq fun K1 hK1 => ?_
  refine sc_text [3] ?_
  refine sr_pu rfl (fun _ => rd_assign ev_c) ?_
  refine sr_nil (hK1 _ _ ?_)
  refine sc_seq fun K2 hK2 => ?_
  refine sc_seq fun K3 hK3 => ?_
  refine sc_text [1, 3] ?_
  refine sr_pure rfl (rc_call go_l02_awake ev_f (args_nil) rfl) (awake_ok _ (hL.grow g) (by have := g.size; omega)) (fun w7 g7 => ?_)
  have g := g.trans (g7)
  refine sr_pu rfl (fun _ => rd_not (ev_t rfl)) ?_
  refine sr_sub [(0, _, _), (2, _, _), (8, _, _)] (sub_cons rfl (sub_cons rfl (sub_cons rfl (sub_nil _)))) ?_
  refine sr_nil (hK3 _ _ ?_)
  refine sc_false (ev_t rfl) ?_
  refine sc_skip (hK2 _ _ ?_)
  refine sc_sub [(0, _, _), (2, _, _)] (sub_cons rfl (sub_cons rfl (sub_nil _))) ?_
  refine sc_seq fun K4 hK4 => ?_
  refine sc_seq fun K5 hK5 => ?_
  refine sc_text [3, 3, 3] ?_
  refine sr_pu rfl (fun _ => rd_move (ev_t rfl)) ?_
  refine sr_pu rfl (fun _ => rd_slen str_string (ev_t rfl)) ?_
  refine sr_pu rfl (fun _ => rd_gt (ev_t rfl) ev_c) ?_
  refine sr_sub [(0, _, _), (2, _, _), (11, _, _)] (sub_cons rfl (sub_cons rfl (sub_cons rfl (sub_nil _)))) ?_
  refine sr_nil (hK5 _ _ ?_)
  refine sc_cond (ev_t rfl) (fun h2 => ?_) (fun h2 => ?_)
  · (try simp only [bsimp] at h2)
    refine sc_seq fun K6 hK6 => ?_
    refine sc_text [3] ?_
    refine sr_pu rfl (fun _ => rd_assign ev_c) ?_
    refine sr_sub [(0, _, _), (2, _, _)] (sub_cons rfl (sub_cons rfl (sub_nil _))) ?_
    refine sr_nil (hK6 _ _ ?_)
    refine sc_ret (t_ret1 rfl rfl ?_)
    exact ⟨rfl, g⟩
  · (try simp only [bsimp] at h2)
    refine sc_skip (hK4 _ _ ?_)
    refine sc_sub [(0, _, _), (2, _, _)] (sub_cons rfl (sub_cons rfl (sub_nil _))) ?_
    refine sc_seq fun K7 hK7 => ?_
    refine sc_text [3, 1, 3] ?_
    refine sr_pu rfl (fun _ => rd_move (ev_t rfl)) ?_
    refine sr_pure rfl (rc_call go_scan_Keyword ev_f (args_cons (ev_t rfl) (args_nil)) rfl) (keyword_ok _ _) (fun w13 g13 => ?_)
    have g := g.trans (g13)
    refine sr_pu rfl (fun _ => rd_assign (ev_t rfl)) ?_
    refine sr_sub [(0, _, _), (2, _, _), (3, _, _)] (sub_cons rfl (sub_cons rfl (sub_cons rfl (sub_nil _)))) ?_
    refine sr_nil (hK7 _ _ ?_)
    refine sc_seq fun K8 hK8 => ?_
    refine sc_seq fun K9 hK9 => ?_
    refine sc_text [3, 3, 1, 3] ?_
    refine sr_pu rfl (fun _ => rd_move (ev_t rfl)) ?_
    refine sr_pu rfl (fun _ => rd_move (ev_t rfl)) ?_
    refine sr_pure rfl (rc_call go_r02_Keyword ev_f (args_cons (ev_t rfl) (args_nil)) rfl) (rkeyword_ok _ _) (fun w16 g16 => ?_)
    have g := g.trans (g16)
    refine sr_pu rfl (fun _ => rd_bne und_bool (ev_t rfl) (ev_t rfl)) ?_
    refine sr_sub [(0, _, _), (2, _, _), (3, _, _), (17, _, _)] (sub_cons rfl (sub_cons rfl (sub_cons rfl (sub_cons rfl (sub_nil _))))) ?_
    refine sr_nil (hK9 _ _ ?_)
    refine sc_cond (ev_t rfl) (fun h3 => ?_) (fun h3 => ?_)
    · exfalso; simp at h3
      done
    · skip
      refine sc_skip (hK8 _ _ ?_)
      refine sc_sub [(0, _, _), (2, _, _), (3, _, _)] (sub_cons rfl (sub_cons rfl (sub_cons rfl (sub_nil _)))) ?_
      refine sc_seq fun K10 hK10 => ?_
      refine sc_seq fun K11 hK11 => ?_
      refine sc_text [3, 3] ?_
      refine sr_pu rfl (fun _ => rd_move (ev_t rfl)) ?_
      refine sr_pu rfl (fun _ => rd_not (ev_t rfl)) ?_
      refine sr_sub [(0, _, _), (2, _, _), (19, _, _)] (sub_cons rfl (sub_cons rfl (sub_cons rfl (sub_nil _)))) ?_
      refine sr_nil (hK11 _ _ ?_)
      refine sc_cond (ev_t rfl) (fun h4 => ?_) (fun h4 => ?_)
      · (try simp only [bsimp] at h4)
        refine sc_seq fun K12 hK12 => ?_
        refine sc_text [3] ?_
        refine sr_pu rfl (fun _ => rd_assign ev_c) ?_
        refine sr_sub [(0, _, _), (2, _, _)] (sub_cons rfl (sub_cons rfl (sub_nil _))) ?_
        refine sr_nil (hK12 _ _ ?_)
        refine sc_ret (t_ret1 rfl rfl ?_)
        exact ⟨rfl, g⟩
      · have hk : inB kws s = true := by simpa using h4
        obtain ⟨e0, e1, e2⟩ := kw_scan hk
        refine sc_skip (hK10 _ _ ?_)
        refine sc_sub [(0, _, _), (2, _, _)] (sub_cons rfl (sub_cons rfl (sub_nil _))) ?_
        refine sc_seq fun K13 hK13 => ?_
        refine sc_text [3, 1, 3, 3, 3, 3, 3, 3, 3] ?_
        refine sr_pu rfl (fun _ => rd_move (ev_t rfl)) ?_
        refine sr_call rfl (rc_call go_scan_Scan ev_f (args_cons (ev_t rfl) (args_nil)) rfl) (scan_ok s _ (hL.grow g) (by have := g.size; omega)) ?_
        rintro v22 w22 ⟨l1, rfl, hT1, g22⟩
        refine ⟨fun _ => g22, ?_⟩
        have g := g.trans g22
        obtain ⟨x1, c1, rfl, hr1⟩ := hT1.row
        obtain ⟨b1, o1, rfl, hrA⟩ := hr1 (by omega)
        have ht := row_tok hrA (i := 0) (by omega)
        refine sr_pu rfl (fun _ => rd_move (ev_t rfl)) ?_
        refine sr_pu rfl (fun _ => rd_extract (ev_t rfl) rfl) ?_
        refine sr_pu rfl (fun _ => rd_extract (ev_t rfl) rfl) ?_
        refine sr_pu rfl (fun _ => rd_extract (ev_t rfl) rfl) ?_
        refine sr_pu rfl (fun _ => rd_assign (ev_t rfl)) ?_
        refine sr_pu rfl (fun _ => rd_assign (ev_t rfl)) ?_
        refine sr_pu rfl (fun _ => rd_assign (ev_t rfl)) ?_
        refine sr_sub [(0, _, _), (2, _, _), (4, _, _), (6, _, _)] (sub_cons rfl (sub_cons rfl (sub_cons rfl (sub_cons rfl (sub_nil _))))) ?_
        refine sr_nil (hK13 _ _ ?_)
        refine sc_seq fun K14 hK14 => ?_
        refine sc_text [3, 3, 3, 3, 3, 3, 3, 3, 3, 3, 0, 3, 3, 3, 3, 3] ?_
        refine sr_pu rfl (fun _ => rd_move (ev_t rfl)) ?_
        refine sr_pu rfl (fun _ => rd_eq (ev_t rfl) ev_c) ?_
        refine sr_pu rfl (fun _ => rd_move (ev_t rfl)) ?_
        refine sr_pug rfl rfl rfl (fun _ => rd_move (ev_t rfl)) ?_
        refine sr_pug rfl rfl rfl (fun _ => rd_len el_sl_api_Token (ev_u rfl id)) ?_
        refine sr_pug rfl rfl rfl (fun _ => rd_eq (ev_u rfl id) ev_c) ?_
        refine sr_pu rfl (fun _ => rd_pick_and (ev_t rfl) (ev_u rfl id)) ?_
        refine sr_pu rfl (fun _ => rd_move (ev_t rfl)) ?_
        refine sr_pug rfl rfl rfl (fun _ => rd_move (ev_t rfl)) ?_
        refine sr_pug rfl rfl rfl (fun _ => rd_idx el_sl_api_Token (ev_u rfl id) ev_c (fun _ => by show 0 ≤ (0 : Int) ∧ (0 : Int) < (((scanF s).1.length : Nat) : Int); omega)) ?_
        refine sr_rdg rfl rfl rfl (rd_loads agg_api_Token (ev_u rfl id) rfl (fun _ => ht)) ?_
        refine sr_pug rfl rfl rfl (fun _ => rd_move (ev_t rfl)) ?_
        refine sr_pug rfl rfl rfl (fun _ => rd_build [_, _, _] ze_api_Token rfl pl_api_Token (parts_cons ev_c (parts_cons (ev_u rfl id) (parts_nil))) rfl) ?_
        refine sr_pug rfl rfl rfl (fun _ => rd_steq fl_api_Token (ev_u rfl id) (ev_u rfl id) rfl) ?_
        refine sr_pu rfl (fun _ => rd_pick_and (ev_t rfl) (ev_u rfl id)) ?_
        refine sr_pu rfl (fun _ => rd_assign (ev_t rfl)) ?_
        refine sr_sub [(2, _, _)] (sub_cons rfl (sub_nil _)) ?_
        refine sr_nil (hK14 _ _ ?_)
        refine sc_ret (t_ret1 rfl rfl ?_)
        refine ⟨congrArg Value.bool ?_, g⟩
        rw [e0, e1]
        exact e2
end Go.Rk
