/- Merged texts of one road: Pra, Prb. Conditions: each text's own. -/
import Derived.Test.YteicjpedahoilaaDoorB08
set_option linter.unusedSimpArgs false
set_option linter.unusedVariables false
namespace Go.Rk
open Go Go.RowKit
set_option linter.unusedVariables false
set_option maxHeartbeats 4000000 in
theorem simple_ok {t : Nd} (ih : PBel t) (hx : stmtB t = true) (hok : okNd t) (hkk : t.kind = 11 ∨ t.kind = 12 ∨ t.kind = 13 ∨ t.kind = 14 ∨ t.kind = 15 ∨ t.kind = 16 ∨ t.kind = 17 ∨ t.kind = 20 ∨ t.kind = 21) : PrOk fn_syntax_printer_simple stT t := by
  intro p c D n0 b l k w hk0 hD hP hlen hc
  have g := PF.refl n0 b w
  have hbn := hP.ge
  have hcn : count t = 1 + (t.kids.map count).sum := count_eq t
  refine ret_of_sc (m := 99) func_syntax_printer_simple rfl rfl [(0, True, _), (1, True, _)] (sub_cons rfl (sub_cons rfl (sub_nil _))) ?_
  refine sc_seq fun K1 hK1 => ?_
  refine sc_text [1] ?_
  refine sr_box rfl (ev_t rfl) rfl ?_
  intro b3 w3 N3
  have l3 := newge N3 g.size
  have g := g.trans (PF.of_g (N3.g))
  have hP := hP.grow (N3.g)
  have hk0 := hk0.grow (N3.g)
  try have hkid := hkid.grow (N3.g)
  have B3 := N3.blk
  refine sr_sub [(0, _, _), (3, _, _)] (sub_cons rfl (sub_cons rfl (sub_nil _))) ?_
  refine sr_nil (hK1 _ _ ?_)
  refine sc_seq fun K2 hK2 => ?_
  refine sc_text [3, 0] ?_
  refine sr_pu rfl (fun _ => rd_field fo_api_Node_0 (ev_t rfl)) ?_
  refine sr_rd rfl (rd_load one_int (ev_t rfl) (fun _ => B3.at_ rfl)) ?_
  refine sr_sub [(0, _, _), (3, _, _), (5, _, _)] (sub_cons rfl (sub_cons rfl (sub_cons rfl (sub_nil _)))) ?_
  refine sr_nil (hK2 _ _ ?_)
  refine sc_block ?_
  refine sc_seq fun K3 hK3 => ?_
  refine sc_text [3, 3] ?_
  refine sr_pu rfl (fun _ => rd_eq (ev_t rfl) ev_c) ?_
  refine sr_pu rfl (fun _ => rd_assign (ev_t rfl)) ?_
  refine sr_sub [(0, _, _), (3, _, _), (5, _, _), (6, _, _)] (sub_cons rfl (sub_cons rfl (sub_cons rfl (sub_cons rfl (sub_nil _))))) ?_
  refine sr_nil (hK3 _ _ ?_)
  refine sc_cond (ev_t rfl) (fun h1 => ?_) (fun h1 => ?_)
  · replace h1 := of_decide_eq_true h1
    obtain ⟨ht, hl, he0⟩ := sh11 h1 hx
    have hE0 := ih.e (by omega) he0 hok
    have hc0 := count_kidAt (t := t) (i := 0) (by omega)
    have e := stT_11 h1 hl k
    rw [e] at hlen
    simp only [List.length_append, List.length_cons, List.length_nil, List.flatten_cons, List.flatten_nil, List.append_nil, tabsL, List.length_replicate] at hlen
    refine sc_seq fun K4 hK4 => ?_
    refine sc_text [3, 3, 0, 1, 2] ?_
    refine sr_pu rfl (fun _ => rd_move (ev_t rfl)) ?_
    refine sr_pu rfl (fun _ => rd_field fo_api_Node_1 (ev_t rfl)) ?_
    refine sr_rd rfl (rd_load one_string (ev_t rfl) (fun _ => B3.at_ rfl)) ?_
    refine sr_buildSlice [_, _] rfl el_sl_string ze_string (parts_cons (ev_t rfl) (parts_cons ev_c (parts_nil))) rfl rfl ?_
    intro b11 w11 N11
    have x11_3 := N11.ne B3
    have l11 := newge N11 g.size
    have g := g.trans (PF.of_g (N11.g))
    replace B3 := B3.grow (N11.g)
    have hP := hP.grow (N11.g)
    have hk0 := hk0.grow (N11.g)
    try have hkid := hkid.grow (N11.g)
    have B11 := N11.blk
    refine sr_call rfl (rc_call go_syntax_printer_write ev_f (args_cons (ev_t rfl) (args_cons (ev_t rfl) (args_nil))) rfl) (write_ok [t.text, [32, 58, 61, 32]] hP B11 (by omega) (by first | omega | (simp only [List.length_append, List.length_cons, List.length_nil, List.flatten_cons, List.flatten_nil, List.append_nil, tabsL, List.length_replicate]; omega) | (simp at hlen ⊢ <;> omega)) (by first | rfl | (simp [ht]; done) | (simpa using ht)) (Nat.le_of_ble_eq_true rfl)) ?_
    rintro v12 w12 ⟨rfl, hP, g12⟩
    refine ⟨fun h => absurd h (by decide), ?_⟩
    have g := g.trans g12
    replace B3 := B3.pf g12 rfl (by omega)
    replace B11 := B11.pf g12 rfl (by omega)
    have hk0 := hk0.pf g12 hD
    refine sr_sub [(0, _, _), (3, _, _)] (sub_cons rfl (sub_cons rfl (sub_nil _))) ?_
    refine sr_nil (hK4 _ _ ?_)
    refine sc_text [3, 3, 0, 3, 0, 2] ?_
    refine sr_pu rfl (fun _ => rd_move (ev_t rfl)) ?_
    refine sr_pu rfl (fun _ => rd_field fo_api_Node_4 (ev_t rfl)) ?_
    refine sr_rd rfl (rd_load one_sl_api_Node (ev_t rfl) (fun _ => B3.at_ rfl)) ?_
    obtain ⟨hpe, p_16, c_16, hcell, hkid⟩ := kd_opt hk0 (i := 0) (by omega)
    refine sr_pu rfl (fun _ => rd_idxq el_sl_api_Node (ev_t rfl) ev_c (fun _ => by omega) (fun _ => hpe)) ?_
    refine sr_rd rfl (rd_loads agg_api_Node (ev_t rfl) rfl (fun _ => hcell)) ?_
    refine sr_call rfl (rc_call go_syntax_printer_expr ev_f (args_cons (ev_t rfl) (args_cons (ev_t rfl) (args_nil))) rfl) (hE0 _ _ D n0 b _ k _ hkid hD hP (by first | omega | (simp only [List.length_append, List.length_cons, List.length_nil, List.flatten_cons, List.flatten_nil, List.append_nil, tabsL, List.length_replicate]; omega)) (by omega)) ?_
    rintro v18 w18 ⟨rfl, hP, g18⟩
    refine ⟨fun h => absurd h (by decide), ?_⟩
    have g := g.trans g18
    replace B3 := B3.pf g18 rfl (by omega)
    replace B11 := B11.pf g18 rfl (by omega)
    have hk0 := hk0.pf g18 hD
    refine sr_sub [] (sub_nil _) ?_
    refine sr_nil (t_end0 rfl ?_)
    refine ⟨rfl, ?_, g⟩
    rw [e]; simpa only [List.append_assoc, List.flatten_cons, List.flatten_nil, List.append_nil] using hP
  (try simp only [bsimp] at h1)
  refine sc_seq fun K5 hK5 => ?_
  refine sc_text [3, 3] ?_
  refine sr_pu rfl (fun _ => rd_eq (ev_t rfl) ev_c) ?_
  refine sr_pu rfl (fun _ => rd_assign (ev_t rfl)) ?_
  refine sr_sub [(0, _, _), (3, _, _), (5, _, _), (19, _, _)] (sub_cons rfl (sub_cons rfl (sub_cons rfl (sub_cons rfl (sub_nil _))))) ?_
  refine sr_nil (hK5 _ _ ?_)
  refine sc_cond (ev_t rfl) (fun h2 => ?_) (fun h2 => ?_)
  · replace h2 := of_decide_eq_true h2
    obtain ⟨hl, he0, he1⟩ := sh12 h2 hx
    have hE0 := ih.e (by omega) he0 hok
    have hE1 := ih.e (by omega) he1 hok
    have e := stT_12 h2 hl k
    rw [e] at hlen
    simp only [List.length_append, List.length_cons, List.length_nil, List.flatten_cons, List.flatten_nil, List.append_nil, tabsL, List.length_replicate] at hlen
    refine sc_text [3, 0, 2] ?_
    refine sr_pu rfl (fun _ => rd_move (ev_t rfl)) ?_
    refine sr_rd rfl (rd_loads agg_api_Node (ev_t rfl) rfl (fun _ => B3.row)) ?_
    refine sr_call rfl (rc_call go_syntax_printer_pair ev_f (args_cons (ev_t rfl) (args_cons (ev_t rfl) (args_cons ev_c (args_nil)))) rfl) (pair_ok [32, 61, 32] (by simp) hl hE0 hE1 hk0 hD hP (by first | omega | (simp only [List.length_append, List.length_cons, List.length_nil, List.flatten_cons, List.flatten_nil, List.append_nil, tabsL, List.length_replicate]; omega)) hc) ?_
    rintro v23 w23 ⟨rfl, hP, g23⟩
    refine ⟨fun h => absurd h (by decide), ?_⟩
    have g := g.trans g23
    replace B3 := B3.pf g23 rfl (by omega)
    have hk0 := hk0.pf g23 hD
    refine sr_sub [] (sub_nil _) ?_
    refine sr_nil (t_end0 rfl ?_)
    refine ⟨rfl, ?_, g⟩
    rw [e]; simpa only [List.append_assoc, List.flatten_cons, List.flatten_nil, List.append_nil] using hP
  (try simp only [bsimp] at h2)
  refine sc_seq fun K6 hK6 => ?_
  refine sc_text [3, 3] ?_
  refine sr_pu rfl (fun _ => rd_eq (ev_t rfl) ev_c) ?_
  refine sr_pu rfl (fun _ => rd_assign (ev_t rfl)) ?_
  refine sr_sub [(0, _, _), (3, _, _), (5, _, _), (24, _, _)] (sub_cons rfl (sub_cons rfl (sub_cons rfl (sub_cons rfl (sub_nil _))))) ?_
  refine sr_nil (hK6 _ _ ?_)
  refine sc_cond (ev_t rfl) (fun h3 => ?_) (fun h3 => ?_)
  · replace h3 := of_decide_eq_true h3
    obtain ⟨hl, he0, he1⟩ := sh16 h3 hx
    have hE0 := ih.e (by omega) he0 hok
    have hE1 := ih.e (by omega) he1 hok
    have e := stT_16 h3 hl k
    rw [e] at hlen
    simp only [List.length_append, List.length_cons, List.length_nil, List.flatten_cons, List.flatten_nil, List.append_nil, tabsL, List.length_replicate] at hlen
    refine sc_text [3, 0, 2] ?_
    refine sr_pu rfl (fun _ => rd_move (ev_t rfl)) ?_
    refine sr_rd rfl (rd_loads agg_api_Node (ev_t rfl) rfl (fun _ => B3.row)) ?_
    refine sr_call rfl (rc_call go_syntax_printer_pair ev_f (args_cons (ev_t rfl) (args_cons (ev_t rfl) (args_cons ev_c (args_nil)))) rfl) (pair_ok [32, 60, 45, 32] (by simp) hl hE0 hE1 hk0 hD hP (by first | omega | (simp only [List.length_append, List.length_cons, List.length_nil, List.flatten_cons, List.flatten_nil, List.append_nil, tabsL, List.length_replicate]; omega)) hc) ?_
    rintro v28 w28 ⟨rfl, hP, g28⟩
    refine ⟨fun h => absurd h (by decide), ?_⟩
    have g := g.trans g28
    replace B3 := B3.pf g28 rfl (by omega)
    have hk0 := hk0.pf g28 hD
    refine sr_sub [] (sub_nil _) ?_
    refine sr_nil (t_end0 rfl ?_)
    refine ⟨rfl, ?_, g⟩
    rw [e]; simpa only [List.append_assoc, List.flatten_cons, List.flatten_nil, List.append_nil] using hP
  (try simp only [bsimp] at h3)
  refine sc_seq fun K7 hK7 => ?_
  refine sc_text [3, 3] ?_
  refine sr_pu rfl (fun _ => rd_eq (ev_t rfl) ev_c) ?_
  refine sr_pu rfl (fun _ => rd_assign (ev_t rfl)) ?_
  refine sr_sub [(0, _, _), (3, _, _), (5, _, _), (29, _, _)] (sub_cons rfl (sub_cons rfl (sub_cons rfl (sub_cons rfl (sub_nil _))))) ?_
  refine sr_nil (hK7 _ _ ?_)
  refine sc_cond (ev_t rfl) (fun h4 => ?_) (fun h4 => ?_)
  · replace h4 := of_decide_eq_true h4
    obtain ⟨hl, he0⟩ := sh13 h4 hx
    have hE0 := ih.e (by omega) he0 hok
    have hc0 := count_kidAt (t := t) (i := 0) (by omega)
    have e := stT_13 h4 hl k
    rw [e] at hlen
    refine sc_text [3, 3, 0, 3, 0, 2] ?_
    refine sr_pu rfl (fun _ => rd_move (ev_t rfl)) ?_
    refine sr_pu rfl (fun _ => rd_field fo_api_Node_4 (ev_t rfl)) ?_
    refine sr_rd rfl (rd_load one_sl_api_Node (ev_t rfl) (fun _ => B3.at_ rfl)) ?_
    obtain ⟨hpe, p_34, c_34, hcell, hkid⟩ := kd_opt hk0 (i := 0) (by omega)
    refine sr_pu rfl (fun _ => rd_idxq el_sl_api_Node (ev_t rfl) ev_c (fun _ => by omega) (fun _ => hpe)) ?_
    refine sr_rd rfl (rd_loads agg_api_Node (ev_t rfl) rfl (fun _ => hcell)) ?_
    refine sr_call rfl (rc_call go_syntax_printer_expr ev_f (args_cons (ev_t rfl) (args_cons (ev_t rfl) (args_nil))) rfl) (hE0 _ _ D n0 b _ k _ hkid hD hP (by first | omega | (simp only [List.length_append, List.length_cons, List.length_nil, List.flatten_cons, List.flatten_nil, List.append_nil, tabsL, List.length_replicate]; omega)) (by omega)) ?_
    rintro v36 w36 ⟨rfl, hP, g36⟩
    refine ⟨fun h => absurd h (by decide), ?_⟩
    have g := g.trans g36
    replace B3 := B3.pf g36 rfl (by omega)
    have hk0 := hk0.pf g36 hD
    refine sr_sub [] (sub_nil _) ?_
    refine sr_nil (t_end0 rfl ?_)
    refine ⟨rfl, ?_, g⟩
    rw [e]; simpa only [List.append_assoc, List.flatten_cons, List.flatten_nil, List.append_nil] using hP
  (try simp only [bsimp] at h4)
  refine sc_seq fun K8 hK8 => ?_
  refine sc_text [3, 3] ?_
  refine sr_pu rfl (fun _ => rd_eq (ev_t rfl) ev_c) ?_
  refine sr_pu rfl (fun _ => rd_assign (ev_t rfl)) ?_
  refine sr_sub [(0, _, _), (3, _, _), (5, _, _), (37, _, _)] (sub_cons rfl (sub_cons rfl (sub_cons rfl (sub_cons rfl (sub_nil _))))) ?_
  refine sr_nil (hK8 _ _ ?_)
  refine sc_cond (ev_t rfl) (fun h5 => ?_) (fun h5 => ?_)
  · replace h5 := of_decide_eq_true h5
    obtain ⟨hl, he0⟩ := sh14 h5 hx
    have hE0 := ih.e (by omega) he0 hok
    have hc0 := count_kidAt (t := t) (i := 0) (by omega)
    have e := stT_14 h5 hl k
    rw [e] at hlen
    simp only [List.length_append, List.length_cons, List.length_nil, List.flatten_cons, List.flatten_nil, List.append_nil, tabsL, List.length_replicate] at hlen
    refine sc_seq fun K9 hK9 => ?_
    refine sc_text [3, 1, 2] ?_
    refine sr_pu rfl (fun _ => rd_move (ev_t rfl)) ?_
    refine sr_buildSlice [_] rfl el_sl_string ze_string (parts_cons ev_c (parts_nil)) rfl rfl ?_
    intro b40 w40 N40
    have x40_3 := N40.ne B3
    have l40 := newge N40 g.size
    have g := g.trans (PF.of_g (N40.g))
    replace B3 := B3.grow (N40.g)
    have hP := hP.grow (N40.g)
    have hk0 := hk0.grow (N40.g)
    try have hkid := hkid.grow (N40.g)
    have B40 := N40.blk
    refine sr_call rfl (rc_call go_syntax_printer_write ev_f (args_cons (ev_t rfl) (args_cons (ev_t rfl) (args_nil))) rfl) (write_ok [[103, 111, 32]] hP B40 (by omega) (by first | omega | (simp only [List.length_append, List.length_cons, List.length_nil, List.flatten_cons, List.flatten_nil, List.append_nil, tabsL, List.length_replicate]; omega) | (simp at hlen ⊢ <;> omega)) (by first | rfl | (simp [ht]; done) | (simpa using ht)) (Nat.le_of_ble_eq_true rfl)) ?_
    rintro v41 w41 ⟨rfl, hP, g41⟩
    refine ⟨fun h => absurd h (by decide), ?_⟩
    have g := g.trans g41
    replace B3 := B3.pf g41 rfl (by omega)
    replace B40 := B40.pf g41 rfl (by omega)
    have hk0 := hk0.pf g41 hD
    refine sr_sub [(0, _, _), (3, _, _)] (sub_cons rfl (sub_cons rfl (sub_nil _))) ?_
    refine sr_nil (hK9 _ _ ?_)
    refine sc_text [3, 3, 0, 3, 0, 2] ?_
    refine sr_pu rfl (fun _ => rd_move (ev_t rfl)) ?_
    refine sr_pu rfl (fun _ => rd_field fo_api_Node_4 (ev_t rfl)) ?_
    refine sr_rd rfl (rd_load one_sl_api_Node (ev_t rfl) (fun _ => B3.at_ rfl)) ?_
    obtain ⟨hpe, p_45, c_45, hcell, hkid⟩ := kd_opt hk0 (i := 0) (by omega)
    refine sr_pu rfl (fun _ => rd_idxq el_sl_api_Node (ev_t rfl) ev_c (fun _ => by omega) (fun _ => hpe)) ?_
    refine sr_rd rfl (rd_loads agg_api_Node (ev_t rfl) rfl (fun _ => hcell)) ?_
    refine sr_call rfl (rc_call go_syntax_printer_expr ev_f (args_cons (ev_t rfl) (args_cons (ev_t rfl) (args_nil))) rfl) (hE0 _ _ D n0 b _ k _ hkid hD hP (by first | omega | (simp only [List.length_append, List.length_cons, List.length_nil, List.flatten_cons, List.flatten_nil, List.append_nil, tabsL, List.length_replicate]; omega)) (by omega)) ?_
    rintro v47 w47 ⟨rfl, hP, g47⟩
    refine ⟨fun h => absurd h (by decide), ?_⟩
    have g := g.trans g47
    replace B3 := B3.pf g47 rfl (by omega)
    replace B40 := B40.pf g47 rfl (by omega)
    have hk0 := hk0.pf g47 hD
    refine sr_sub [] (sub_nil _) ?_
    refine sr_nil (t_end0 rfl ?_)
    refine ⟨rfl, ?_, g⟩
    rw [e]; simpa only [List.append_assoc, List.flatten_cons, List.flatten_nil, List.append_nil] using hP
  (try simp only [bsimp] at h5)
  refine sc_seq fun K10 hK10 => ?_
  refine sc_text [3, 3] ?_
  refine sr_pu rfl (fun _ => rd_eq (ev_t rfl) ev_c) ?_
  refine sr_pu rfl (fun _ => rd_assign (ev_t rfl)) ?_
  refine sr_sub [(0, _, _), (3, _, _), (5, _, _), (48, _, _)] (sub_cons rfl (sub_cons rfl (sub_cons rfl (sub_cons rfl (sub_nil _))))) ?_
  refine sr_nil (hK10 _ _ ?_)
  refine sc_cond (ev_t rfl) (fun h6 => ?_) (fun h6 => ?_)
  · replace h6 := of_decide_eq_true h6
    obtain ⟨hl, he0⟩ := sh15 h6 hx
    have hE0 := ih.e (by omega) he0 hok
    have hc0 := count_kidAt (t := t) (i := 0) (by omega)
    have e := stT_15 h6 hl k
    rw [e] at hlen
    simp only [List.length_append, List.length_cons, List.length_nil, List.flatten_cons, List.flatten_nil, List.append_nil, tabsL, List.length_replicate] at hlen
    refine sc_seq fun K11 hK11 => ?_
    refine sc_text [3, 1, 2] ?_
    refine sr_pu rfl (fun _ => rd_move (ev_t rfl)) ?_
    refine sr_buildSlice [_] rfl el_sl_string ze_string (parts_cons ev_c (parts_nil)) rfl rfl ?_
    intro b51 w51 N51
    have x51_3 := N51.ne B3
    have l51 := newge N51 g.size
    have g := g.trans (PF.of_g (N51.g))
    replace B3 := B3.grow (N51.g)
    have hP := hP.grow (N51.g)
    have hk0 := hk0.grow (N51.g)
    try have hkid := hkid.grow (N51.g)
    have B51 := N51.blk
    refine sr_call rfl (rc_call go_syntax_printer_write ev_f (args_cons (ev_t rfl) (args_cons (ev_t rfl) (args_nil))) rfl) (write_ok [[100, 101, 102, 101, 114, 32]] hP B51 (by omega) (by first | omega | (simp only [List.length_append, List.length_cons, List.length_nil, List.flatten_cons, List.flatten_nil, List.append_nil, tabsL, List.length_replicate]; omega) | (simp at hlen ⊢ <;> omega)) (by first | rfl | (simp [ht]; done) | (simpa using ht)) (Nat.le_of_ble_eq_true rfl)) ?_
    rintro v52 w52 ⟨rfl, hP, g52⟩
    refine ⟨fun h => absurd h (by decide), ?_⟩
    have g := g.trans g52
    replace B3 := B3.pf g52 rfl (by omega)
    replace B51 := B51.pf g52 rfl (by omega)
    have hk0 := hk0.pf g52 hD
    refine sr_sub [(0, _, _), (3, _, _)] (sub_cons rfl (sub_cons rfl (sub_nil _))) ?_
    refine sr_nil (hK11 _ _ ?_)
    refine sc_text [3, 3, 0, 3, 0, 2] ?_
    refine sr_pu rfl (fun _ => rd_move (ev_t rfl)) ?_
    refine sr_pu rfl (fun _ => rd_field fo_api_Node_4 (ev_t rfl)) ?_
    refine sr_rd rfl (rd_load one_sl_api_Node (ev_t rfl) (fun _ => B3.at_ rfl)) ?_
    obtain ⟨hpe, p_56, c_56, hcell, hkid⟩ := kd_opt hk0 (i := 0) (by omega)
    refine sr_pu rfl (fun _ => rd_idxq el_sl_api_Node (ev_t rfl) ev_c (fun _ => by omega) (fun _ => hpe)) ?_
    refine sr_rd rfl (rd_loads agg_api_Node (ev_t rfl) rfl (fun _ => hcell)) ?_
    refine sr_call rfl (rc_call go_syntax_printer_expr ev_f (args_cons (ev_t rfl) (args_cons (ev_t rfl) (args_nil))) rfl) (hE0 _ _ D n0 b _ k _ hkid hD hP (by first | omega | (simp only [List.length_append, List.length_cons, List.length_nil, List.flatten_cons, List.flatten_nil, List.append_nil, tabsL, List.length_replicate]; omega)) (by omega)) ?_
    rintro v58 w58 ⟨rfl, hP, g58⟩
    refine ⟨fun h => absurd h (by decide), ?_⟩
    have g := g.trans g58
    replace B3 := B3.pf g58 rfl (by omega)
    replace B51 := B51.pf g58 rfl (by omega)
    have hk0 := hk0.pf g58 hD
    refine sr_sub [] (sub_nil _) ?_
    refine sr_nil (t_end0 rfl ?_)
    refine ⟨rfl, ?_, g⟩
    rw [e]; simpa only [List.append_assoc, List.flatten_cons, List.flatten_nil, List.append_nil] using hP
  (try simp only [bsimp] at h6)
  refine sc_seq fun K12 hK12 => ?_
  refine sc_text [3, 3] ?_
  refine sr_pu rfl (fun _ => rd_eq (ev_t rfl) ev_c) ?_
  refine sr_pu rfl (fun _ => rd_assign (ev_t rfl)) ?_
  refine sr_sub [(0, _, _), (3, _, _), (5, _, _), (59, _, _)] (sub_cons rfl (sub_cons rfl (sub_cons rfl (sub_cons rfl (sub_nil _))))) ?_
  refine sr_nil (hK12 _ _ ?_)
  refine sc_cond (ev_t rfl) (fun h7 => ?_) (fun h7 => ?_)
  · replace h7 := of_decide_eq_true h7
    obtain ⟨hl, he0⟩ := sh17 h7 hx
    have hEs := ih.es (all_one hl he0) hok
    have e := stT_17 h7 hl k
    rw [e] at hlen
    simp only [List.length_append, List.length_cons, List.length_nil, List.flatten_cons, List.flatten_nil, List.append_nil, tabsL, List.length_replicate] at hlen
    refine sc_seq fun K13 hK13 => ?_
    refine sc_text [3, 1, 2] ?_
    refine sr_pu rfl (fun _ => rd_move (ev_t rfl)) ?_
    refine sr_buildSlice [_] rfl el_sl_string ze_string (parts_cons ev_c (parts_nil)) rfl rfl ?_
    intro b62 w62 N62
    have x62_3 := N62.ne B3
    have l62 := newge N62 g.size
    have g := g.trans (PF.of_g (N62.g))
    replace B3 := B3.grow (N62.g)
    have hP := hP.grow (N62.g)
    have hk0 := hk0.grow (N62.g)
    try have hkid := hkid.grow (N62.g)
    have B62 := N62.blk
    refine sr_call rfl (rc_call go_syntax_printer_write ev_f (args_cons (ev_t rfl) (args_cons (ev_t rfl) (args_nil))) rfl) (write_ok [[99, 108, 111, 115, 101, 40]] hP B62 (by omega) (by first | omega | (simp only [List.length_append, List.length_cons, List.length_nil, List.flatten_cons, List.flatten_nil, List.append_nil, tabsL, List.length_replicate]; omega) | (simp at hlen ⊢ <;> omega)) (by first | rfl | (simp [ht]; done) | (simpa using ht)) (Nat.le_of_ble_eq_true rfl)) ?_
    rintro v63 w63 ⟨rfl, hP, g63⟩
    refine ⟨fun h => absurd h (by decide), ?_⟩
    have g := g.trans g63
    replace B3 := B3.pf g63 rfl (by omega)
    replace B62 := B62.pf g63 rfl (by omega)
    have hk0 := hk0.pf g63 hD
    refine sr_sub [(0, _, _), (3, _, _)] (sub_cons rfl (sub_cons rfl (sub_nil _))) ?_
    refine sr_nil (hK13 _ _ ?_)
    refine sc_seq fun K14 hK14 => ?_
    refine sc_text [3, 3, 0, 2] ?_
    refine sr_pu rfl (fun _ => rd_move (ev_t rfl)) ?_
    refine sr_pu rfl (fun _ => rd_field fo_api_Node_4 (ev_t rfl)) ?_
    refine sr_rd rfl (rd_load one_sl_api_Node (ev_t rfl) (fun _ => B3.at_ rfl)) ?_
    refine sr_call rfl (rc_call go_syntax_printer_list ev_f (args_cons (ev_t rfl) (args_cons (ev_t rfl) (args_nil))) rfl) (list_ok hEs hk0 hD hP (by first | omega | (simp only [List.length_append, List.length_cons, List.length_nil, List.flatten_cons, List.flatten_nil, List.append_nil, tabsL, List.length_replicate]; omega)) (by omega)) ?_
    rintro v67 w67 ⟨rfl, hP, g67⟩
    refine ⟨fun h => absurd h (by decide), ?_⟩
    have g := g.trans g67
    replace B3 := B3.pf g67 rfl (by omega)
    replace B62 := B62.pf g67 rfl (by omega)
    have hk0 := hk0.pf g67 hD
    refine sr_sub [(0, _, _)] (sub_cons rfl (sub_nil _)) ?_
    refine sr_nil (hK14 _ _ ?_)
    refine sc_text [3, 1, 2] ?_
    refine sr_pu rfl (fun _ => rd_move (ev_t rfl)) ?_
    refine sr_buildSlice [_] rfl el_sl_string ze_string (parts_cons ev_c (parts_nil)) rfl rfl ?_
    intro b69 w69 N69
    have x69_3 := N69.ne B3
    have x69_62 := N69.ne B62
    have l69 := newge N69 g.size
    have g := g.trans (PF.of_g (N69.g))
    replace B3 := B3.grow (N69.g)
    replace B62 := B62.grow (N69.g)
    have hP := hP.grow (N69.g)
    have hk0 := hk0.grow (N69.g)
    try have hkid := hkid.grow (N69.g)
    have B69 := N69.blk
    refine sr_call rfl (rc_call go_syntax_printer_write ev_f (args_cons (ev_t rfl) (args_cons (ev_t rfl) (args_nil))) rfl) (write_ok [[41]] hP B69 (by omega) (by first | omega | (simp only [List.length_append, List.length_cons, List.length_nil, List.flatten_cons, List.flatten_nil, List.append_nil, tabsL, List.length_replicate]; omega) | (simp at hlen ⊢ <;> omega)) (by first | rfl | (simp [ht]; done) | (simpa using ht)) (Nat.le_of_ble_eq_true rfl)) ?_
    rintro v70 w70 ⟨rfl, hP, g70⟩
    refine ⟨fun h => absurd h (by decide), ?_⟩
    have g := g.trans g70
    replace B3 := B3.pf g70 rfl (by omega)
    replace B62 := B62.pf g70 rfl (by omega)
    replace B69 := B69.pf g70 rfl (by omega)
    have hk0 := hk0.pf g70 hD
    refine sr_sub [] (sub_nil _) ?_
    refine sr_nil (t_end0 rfl ?_)
    refine ⟨rfl, ?_, g⟩
    rw [e]; simpa only [List.append_assoc, List.flatten_cons, List.flatten_nil, List.append_nil] using hP
  (try simp only [bsimp] at h7)
  refine sc_seq fun K15 hK15 => ?_
  refine sc_text [3, 3] ?_
  refine sr_pu rfl (fun _ => rd_eq (ev_t rfl) ev_c) ?_
  refine sr_pu rfl (fun _ => rd_assign (ev_t rfl)) ?_
  refine sr_sub [(0, _, _), (3, _, _), (5, _, _), (71, _, _)] (sub_cons rfl (sub_cons rfl (sub_cons rfl (sub_cons rfl (sub_nil _))))) ?_
  refine sr_nil (hK15 _ _ ?_)
  refine sc_cond (ev_t rfl) (fun h8 => ?_) (fun h8 => ?_)
  · replace h8 := of_decide_eq_true h8
    obtain ⟨hl, he0⟩ := sh21 h8 hx
    have hEs := ih.es (all_one hl he0) hok
    have e := stT_21 h8 hl k
    rw [e] at hlen
    simp only [List.length_append, List.length_cons, List.length_nil, List.flatten_cons, List.flatten_nil, List.append_nil, tabsL, List.length_replicate] at hlen
    refine sc_seq fun K16 hK16 => ?_
    refine sc_text [3, 1, 2] ?_
    refine sr_pu rfl (fun _ => rd_move (ev_t rfl)) ?_
    refine sr_buildSlice [_] rfl el_sl_string ze_string (parts_cons ev_c (parts_nil)) rfl rfl ?_
    intro b74 w74 N74
    have x74_3 := N74.ne B3
    have l74 := newge N74 g.size
    have g := g.trans (PF.of_g (N74.g))
    replace B3 := B3.grow (N74.g)
    have hP := hP.grow (N74.g)
    have hk0 := hk0.grow (N74.g)
    try have hkid := hkid.grow (N74.g)
    have B74 := N74.blk
    refine sr_call rfl (rc_call go_syntax_printer_write ev_f (args_cons (ev_t rfl) (args_cons (ev_t rfl) (args_nil))) rfl) (write_ok [[112, 114, 105, 110, 116, 40]] hP B74 (by omega) (by first | omega | (simp only [List.length_append, List.length_cons, List.length_nil, List.flatten_cons, List.flatten_nil, List.append_nil, tabsL, List.length_replicate]; omega) | (simp at hlen ⊢ <;> omega)) (by first | rfl | (simp [ht]; done) | (simpa using ht)) (Nat.le_of_ble_eq_true rfl)) ?_
    rintro v75 w75 ⟨rfl, hP, g75⟩
    refine ⟨fun h => absurd h (by decide), ?_⟩
    have g := g.trans g75
    replace B3 := B3.pf g75 rfl (by omega)
    replace B74 := B74.pf g75 rfl (by omega)
    have hk0 := hk0.pf g75 hD
    refine sr_sub [(0, _, _), (3, _, _)] (sub_cons rfl (sub_cons rfl (sub_nil _))) ?_
    refine sr_nil (hK16 _ _ ?_)
    refine sc_seq fun K17 hK17 => ?_
    refine sc_text [3, 3, 0, 2] ?_
    refine sr_pu rfl (fun _ => rd_move (ev_t rfl)) ?_
    refine sr_pu rfl (fun _ => rd_field fo_api_Node_4 (ev_t rfl)) ?_
    refine sr_rd rfl (rd_load one_sl_api_Node (ev_t rfl) (fun _ => B3.at_ rfl)) ?_
    refine sr_call rfl (rc_call go_syntax_printer_list ev_f (args_cons (ev_t rfl) (args_cons (ev_t rfl) (args_nil))) rfl) (list_ok hEs hk0 hD hP (by first | omega | (simp only [List.length_append, List.length_cons, List.length_nil, List.flatten_cons, List.flatten_nil, List.append_nil, tabsL, List.length_replicate]; omega)) (by omega)) ?_
    rintro v79 w79 ⟨rfl, hP, g79⟩
    refine ⟨fun h => absurd h (by decide), ?_⟩
    have g := g.trans g79
    replace B3 := B3.pf g79 rfl (by omega)
    replace B74 := B74.pf g79 rfl (by omega)
    have hk0 := hk0.pf g79 hD
    refine sr_sub [(0, _, _)] (sub_cons rfl (sub_nil _)) ?_
    refine sr_nil (hK17 _ _ ?_)
    refine sc_text [3, 1, 2] ?_
    refine sr_pu rfl (fun _ => rd_move (ev_t rfl)) ?_
    refine sr_buildSlice [_] rfl el_sl_string ze_string (parts_cons ev_c (parts_nil)) rfl rfl ?_
    intro b81 w81 N81
    have x81_3 := N81.ne B3
    have x81_74 := N81.ne B74
    have l81 := newge N81 g.size
    have g := g.trans (PF.of_g (N81.g))
    replace B3 := B3.grow (N81.g)
    replace B74 := B74.grow (N81.g)
    have hP := hP.grow (N81.g)
    have hk0 := hk0.grow (N81.g)
    try have hkid := hkid.grow (N81.g)
    have B81 := N81.blk
    refine sr_call rfl (rc_call go_syntax_printer_write ev_f (args_cons (ev_t rfl) (args_cons (ev_t rfl) (args_nil))) rfl) (write_ok [[41]] hP B81 (by omega) (by first | omega | (simp only [List.length_append, List.length_cons, List.length_nil, List.flatten_cons, List.flatten_nil, List.append_nil, tabsL, List.length_replicate]; omega) | (simp at hlen ⊢ <;> omega)) (by first | rfl | (simp [ht]; done) | (simpa using ht)) (Nat.le_of_ble_eq_true rfl)) ?_
    rintro v82 w82 ⟨rfl, hP, g82⟩
    refine ⟨fun h => absurd h (by decide), ?_⟩
    have g := g.trans g82
    replace B3 := B3.pf g82 rfl (by omega)
    replace B74 := B74.pf g82 rfl (by omega)
    replace B81 := B81.pf g82 rfl (by omega)
    have hk0 := hk0.pf g82 hD
    refine sr_sub [] (sub_nil _) ?_
    refine sr_nil (t_end0 rfl ?_)
    refine ⟨rfl, ?_, g⟩
    rw [e]; simpa only [List.append_assoc, List.flatten_cons, List.flatten_nil, List.append_nil] using hP
  (try simp only [bsimp] at h8)
  refine sc_seq fun K18 hK18 => ?_
  refine sc_text [3, 3] ?_
  refine sr_pu rfl (fun _ => rd_eq (ev_t rfl) ev_c) ?_
  refine sr_pu rfl (fun _ => rd_assign (ev_t rfl)) ?_
  refine sr_sub [(0, _, _), (3, _, _), (83, _, _)] (sub_cons rfl (sub_cons rfl (sub_cons rfl (sub_nil _)))) ?_
  refine sr_nil (hK18 _ _ ?_)
  refine sc_cond (ev_t rfl) (fun h9 => ?_) (fun h9 => ?_)
  · replace h9 := of_decide_eq_true h9
    obtain ⟨hl, hes⟩ := sh20 h9 hx
    have hEs := ih.es hes hok
    have hlr : l.length + 6 < 100000000 := by
      rcases (by omega : t.kids.length = 0 ∨ t.kids.length = 1) with hz | hz
      · rw [stT_20n h9 hz k] at hlen; simpa using hlen
      · rw [stT_20 h9 hz k] at hlen; simp only [List.length_append, List.length_cons, List.length_nil, List.flatten_cons, List.flatten_nil, List.append_nil, tabsL, List.length_replicate] at hlen; omega
    refine sc_seq fun K19 hK19 => ?_
    refine sc_text [3, 1, 2] ?_
    refine sr_pu rfl (fun _ => rd_move (ev_t rfl)) ?_
    refine sr_buildSlice [_] rfl el_sl_string ze_string (parts_cons ev_c (parts_nil)) rfl rfl ?_
    intro b86 w86 N86
    have x86_3 := N86.ne B3
    have l86 := newge N86 g.size
    have g := g.trans (PF.of_g (N86.g))
    replace B3 := B3.grow (N86.g)
    have hP := hP.grow (N86.g)
    have hk0 := hk0.grow (N86.g)
    try have hkid := hkid.grow (N86.g)
    have B86 := N86.blk
    refine sr_call rfl (rc_call go_syntax_printer_write ev_f (args_cons (ev_t rfl) (args_cons (ev_t rfl) (args_nil))) rfl) (write_ok [[114, 101, 116, 117, 114, 110]] hP B86 (by omega) (by first | omega | (simp only [List.length_append, List.length_cons, List.length_nil, List.flatten_cons, List.flatten_nil, List.append_nil, tabsL, List.length_replicate]; omega) | (simp at hlen ⊢ <;> omega)) (by first | rfl | (simp [ht]; done) | (simpa using ht)) (Nat.le_of_ble_eq_true rfl)) ?_
    rintro v87 w87 ⟨rfl, hP, g87⟩
    refine ⟨fun h => absurd h (by decide), ?_⟩
    have g := g.trans g87
    replace B3 := B3.pf g87 rfl (by omega)
    replace B86 := B86.pf g87 rfl (by omega)
    have hk0 := hk0.pf g87 hD
    refine sr_sub [(0, _, _), (3, _, _)] (sub_cons rfl (sub_cons rfl (sub_nil _))) ?_
    refine sr_nil (hK19 _ _ ?_)
    refine sc_seq fun K20 hK20 => ?_
    refine sc_text [3, 0, 3, 3] ?_
    refine sr_pu rfl (fun _ => rd_field fo_api_Node_4 (ev_t rfl)) ?_
    refine sr_rd rfl (rd_load one_sl_api_Node (ev_t rfl) (fun _ => B3.at_ rfl)) ?_
    refine sr_pu rfl (fun _ => rd_len el_sl_api_Node (ev_t rfl)) ?_
    refine sr_pu rfl (fun _ => rd_gt (ev_t rfl) ev_c) ?_
    refine sr_sub [(0, _, _), (3, _, _), (91, _, _)] (sub_cons rfl (sub_cons rfl (sub_cons rfl (sub_nil _)))) ?_
    refine sr_nil (hK20 _ _ ?_)
    refine sc_cond (ev_t rfl) (fun h10 => ?_) (fun h10 => ?_)
    · replace h10 : t.kids.length = 1 := by simp only [decide_eq_true_eq] at h10; omega
      have e := stT_20 h9 h10 k
      rw [e] at hlen
      simp only [List.length_append, List.length_cons, List.length_nil, List.flatten_cons, List.flatten_nil, List.append_nil, tabsL, List.length_replicate] at hlen
      refine sc_seq fun K21 hK21 => ?_
      refine sc_text [3, 1, 2] ?_
      refine sr_pu rfl (fun _ => rd_move (ev_t rfl)) ?_
      refine sr_buildSlice [_] rfl el_sl_string ze_string (parts_cons ev_c (parts_nil)) rfl rfl ?_
      intro b93 w93 N93
      have x93_3 := N93.ne B3
      have x93_86 := N93.ne B86
      have l93 := newge N93 g.size
      have g := g.trans (PF.of_g (N93.g))
      replace B3 := B3.grow (N93.g)
      replace B86 := B86.grow (N93.g)
      have hP := hP.grow (N93.g)
      have hk0 := hk0.grow (N93.g)
      try have hkid := hkid.grow (N93.g)
      have B93 := N93.blk
      refine sr_call rfl (rc_call go_syntax_printer_write ev_f (args_cons (ev_t rfl) (args_cons (ev_t rfl) (args_nil))) rfl) (write_ok [[32]] hP B93 (by omega) (by first | omega | (simp only [List.length_append, List.length_cons, List.length_nil, List.flatten_cons, List.flatten_nil, List.append_nil, tabsL, List.length_replicate]; omega) | (simp at hlen ⊢ <;> omega)) (by first | rfl | (simp [ht]; done) | (simpa using ht)) (Nat.le_of_ble_eq_true rfl)) ?_
      rintro v94 w94 ⟨rfl, hP, g94⟩
      refine ⟨fun h => absurd h (by decide), ?_⟩
      have g := g.trans g94
      replace B3 := B3.pf g94 rfl (by omega)
      replace B86 := B86.pf g94 rfl (by omega)
      replace B93 := B93.pf g94 rfl (by omega)
      have hk0 := hk0.pf g94 hD
      refine sr_sub [(0, _, _), (3, _, _)] (sub_cons rfl (sub_cons rfl (sub_nil _))) ?_
      refine sr_nil (hK21 _ _ ?_)
      refine sc_text [3, 3, 0, 2] ?_
      refine sr_pu rfl (fun _ => rd_move (ev_t rfl)) ?_
      refine sr_pu rfl (fun _ => rd_field fo_api_Node_4 (ev_t rfl)) ?_
      refine sr_rd rfl (rd_load one_sl_api_Node (ev_t rfl) (fun _ => B3.at_ rfl)) ?_
      refine sr_call rfl (rc_call go_syntax_printer_list ev_f (args_cons (ev_t rfl) (args_cons (ev_t rfl) (args_nil))) rfl) (list_ok hEs hk0 hD hP (by first | omega | (simp only [List.length_append, List.length_cons, List.length_nil, List.flatten_cons, List.flatten_nil, List.append_nil, tabsL, List.length_replicate]; omega)) (by omega)) ?_
      rintro v98 w98 ⟨rfl, hP, g98⟩
      refine ⟨fun h => absurd h (by decide), ?_⟩
      have g := g.trans g98
      replace B3 := B3.pf g98 rfl (by omega)
      replace B86 := B86.pf g98 rfl (by omega)
      replace B93 := B93.pf g98 rfl (by omega)
      have hk0 := hk0.pf g98 hD
      refine sr_sub [] (sub_nil _) ?_
      refine sr_nil (t_end0 rfl ?_)
      refine ⟨rfl, ?_, g⟩
      rw [e]; simpa only [List.append_assoc, List.flatten_cons, List.flatten_nil, List.append_nil] using hP
    replace h10 : t.kids.length = 0 := by simp only [decide_eq_false_iff_not] at h10; omega
    have e := stT_20n h9 h10 k
    refine sc_skip (t_end0 rfl ?_)
    refine ⟨rfl, ?_, g⟩
    rw [e]; simpa only [List.append_assoc, List.flatten_cons, List.flatten_nil, List.append_nil] using hP
  (try simp only [bsimp] at h9)
  exfalso; simp only [bsimp, decide_eq_false_iff_not] at h1 h2 h3 h4 h5 h6 h7 h8 h9; omega
end Go.Rk
namespace Go.Rk
open Go Go.RowKit
set_option linter.unusedVariables false
theorem block_stmt {t : Nd} (h : blockB t = true) : stmtB t = true := by
  have h1 := Bool.and_eq_true_iff.1 h
  have h2 := of_decide_eq_true h1.1
  unfold stmtB; rw [h2, h1.2]; decide
theorem if_stmt {t : Nd} (h : ifB t = true) : stmtB t = true := by
  have h1 := Bool.and_eq_true_iff.1 h
  have h2 := of_decide_eq_true h1.1
  unfold stmtB; rw [h2, h1.2]; decide
theorem if_kind {t : Nd} (h : ifB t = true) : t.kind = 18 := of_decide_eq_true (Bool.and_eq_true_iff.1 h).1
theorem PBel.t {t : Nd} (ih : PBel t) {i : Nat} (h : i < t.kids.length) (hx : stmtB (kidAt t i) = true) (hk : okNd t) : PrOk fn_syntax_printer_stmt stT (kidAt t i) := by
  intro p c D n0 b l k w h1 h2 h3 h4 h5
  have e : pst (kidAt t i) k = stT (kidAt t i) k := by rw [pst_stmt hx]
  have := ih.s h (stmt_pstB hx) hk p c D n0 b l k w h1 h2 h3 (by rw [e]; exact h4) h5
  rw [e] at this; exact this
set_option maxHeartbeats 8000000 in
theorem compound_ok {t : Nd} (ih : PBel t) (hx : (t.kind = 23 ∧ caseB t = true) ∨ stmtB t = true) (hok : okNd t) (hkk : t.kind = 18 ∨ t.kind = 19 ∨ t.kind = 10 ∨ t.kind = 22 ∨ t.kind = 23) : PrOk fn_syntax_printer_compound pst t := by
  intro p c D n0 b l k w hk0 hD hP hlen hc
  have g := PF.refl n0 b w
  have hbn := hP.ge
  have hcn : count t = 1 + (t.kids.map count).sum := count_eq t
  have hls := length_le_sum t.kids
  refine ret_of_sc (m := 127) func_syntax_printer_compound rfl rfl [(0, True, _), (1, True, _)] (sub_cons rfl (sub_cons rfl (sub_nil _))) ?_
  refine sc_seq fun K1 hK1 => ?_
  refine sc_text [1] ?_
  refine sr_box rfl (ev_t rfl) rfl ?_
  intro b3 w3 N3
  have l3 := newge N3 g.size
  have g := g.trans (PF.of_g (N3.g))
  have hP := hP.grow (N3.g)
  have hk0 := hk0.grow (N3.g)
  try have hkid := hkid.grow (N3.g)
  have B3 := N3.blk
  refine sr_sub [(0, _, _), (3, _, _)] (sub_cons rfl (sub_cons rfl (sub_nil _))) ?_
  refine sr_nil (hK1 _ _ ?_)
  refine sc_seq fun K2 hK2 => ?_
  refine sc_text [3, 0] ?_
  refine sr_pu rfl (fun _ => rd_field fo_api_Node_0 (ev_t rfl)) ?_
  refine sr_rd rfl (rd_load one_int (ev_t rfl) (fun _ => B3.at_ rfl)) ?_
  refine sr_sub [(0, _, _), (3, _, _), (7, _, _)] (sub_cons rfl (sub_cons rfl (sub_cons rfl (sub_nil _)))) ?_
  refine sr_nil (hK2 _ _ ?_)
  refine sc_block ?_
  refine sc_seq fun K3 hK3 => ?_
  refine sc_text [3, 3] ?_
  refine sr_pu rfl (fun _ => rd_eq (ev_t rfl) ev_c) ?_
  refine sr_pu rfl (fun _ => rd_assign (ev_t rfl)) ?_
  refine sr_sub [(0, _, _), (3, _, _), (7, _, _), (8, _, _)] (sub_cons rfl (sub_cons rfl (sub_cons rfl (sub_cons rfl (sub_nil _))))) ?_
  refine sr_nil (hK3 _ _ ?_)
  refine sc_cond (ev_t rfl) (fun h1 => ?_) (fun h1 => ?_)
  · replace h1 := of_decide_eq_true h1
    replace hx : stmtB t = true := hx.resolve_left fun h => by omega
    rw [pst_stmt hx] at hlen ⊢
    obtain ⟨hl, he0, hb1, hx2⟩ := sh18 (sh18s h1 hx)
    have hE0 := ih.e (by omega) he0 hok
    have hB1 := ih.b (by omega) hb1 hok
    have hc0 := count_kidAt (t := t) (i := 0) (by omega)
    have hc1 := count_kidAt (t := t) (i := 1) (by omega)
    have hc2 := count_kidAt (t := t) (i := 2) (by omega)
    have e := stT_18 h1 hl (hx2.elim (fun h => .inl (block_kind h)) fun h => h.elim (fun h => .inr (.inl (if_kind h))) fun h => .inr (.inr (none_of h).1)) k
    rw [e] at hlen
    simp only [List.length_append, List.length_cons, List.length_nil, List.flatten_cons, List.flatten_nil, List.append_nil, tabsL, List.length_replicate] at hlen
    refine sc_seq fun K4 hK4 => ?_
    refine sc_text [3, 1, 2] ?_
    refine sr_pu rfl (fun _ => rd_move (ev_t rfl)) ?_
    refine sr_buildSlice [_] rfl el_sl_string ze_string (parts_cons ev_c (parts_nil)) rfl rfl ?_
    intro b11 w11 N11
    have x11_3 := N11.ne B3
    have l11 := newge N11 g.size
    have g := g.trans (PF.of_g (N11.g))
    replace B3 := B3.grow (N11.g)
    have hP := hP.grow (N11.g)
    have hk0 := hk0.grow (N11.g)
    try have hkid := hkid.grow (N11.g)
    have B11 := N11.blk
    refine sr_call rfl (rc_call go_syntax_printer_write ev_f (args_cons (ev_t rfl) (args_cons (ev_t rfl) (args_nil))) rfl) (write_ok [[105, 102, 32]] hP B11 (by omega) (by first | omega | (simp only [List.length_append, List.length_cons, List.length_nil, List.flatten_cons, List.flatten_nil, List.append_nil, tabsL, List.length_replicate]; omega) | (simp at hlen ⊢ <;> omega)) (by first | rfl | (simp [ht]; done) | (simpa using ht)) (Nat.le_of_ble_eq_true rfl)) ?_
    rintro v12 w12 ⟨rfl, hP, g12⟩
    refine ⟨fun h => absurd h (by decide), ?_⟩
    have g := g.trans g12
    replace B3 := B3.pf g12 rfl (by omega)
    replace B11 := B11.pf g12 rfl (by omega)
    have hk0 := hk0.pf g12 hD
    try have hkid := hkid.pf g12 hD
    refine sr_sub [(0, _, _), (3, _, _)] (sub_cons rfl (sub_cons rfl (sub_nil _))) ?_
    refine sr_nil (hK4 _ _ ?_)
    refine sc_seq fun K5 hK5 => ?_
    refine sc_text [3, 3, 0, 3, 0, 2] ?_
    refine sr_pu rfl (fun _ => rd_move (ev_t rfl)) ?_
    refine sr_pu rfl (fun _ => rd_field fo_api_Node_4 (ev_t rfl)) ?_
    refine sr_rd rfl (rd_load one_sl_api_Node (ev_t rfl) (fun _ => B3.at_ rfl)) ?_
    obtain ⟨hpe, p_16, c_16, hcell, hkid⟩ := kd_opt hk0 (i := 0) (by omega)
    refine sr_pu rfl (fun _ => rd_idxq el_sl_api_Node (ev_t rfl) ev_c (fun _ => by omega) (fun _ => hpe)) ?_
    refine sr_rd rfl (rd_loads agg_api_Node (ev_t rfl) rfl (fun _ => hcell)) ?_
    refine sr_call rfl (rc_call go_syntax_printer_expr ev_f (args_cons (ev_t rfl) (args_cons (ev_t rfl) (args_nil))) rfl) (hE0 _ _ D n0 b _ k _ hkid hD hP (by first | omega | (simp only [List.length_append, List.length_cons, List.length_nil, List.flatten_cons, List.flatten_nil, List.append_nil, tabsL, List.length_replicate]; omega)) (by omega)) ?_
    rintro v18 w18 ⟨rfl, hP, g18⟩
    refine ⟨fun h => absurd h (by decide), ?_⟩
    have g := g.trans g18
    replace B3 := B3.pf g18 rfl (by omega)
    replace B11 := B11.pf g18 rfl (by omega)
    have hk0 := hk0.pf g18 hD
    try have hkid := hkid.pf g18 hD
    refine sr_sub [(0, _, _), (3, _, _)] (sub_cons rfl (sub_cons rfl (sub_nil _))) ?_
    refine sr_nil (hK5 _ _ ?_)
    refine sc_seq fun K6 hK6 => ?_
    refine sc_text [3, 1, 2] ?_
    refine sr_pu rfl (fun _ => rd_move (ev_t rfl)) ?_
    refine sr_buildSlice [_] rfl el_sl_string ze_string (parts_cons ev_c (parts_nil)) rfl rfl ?_
    intro b20 w20 N20
    have x20_3 := N20.ne B3
    have x20_11 := N20.ne B11
    have l20 := newge N20 g.size
    have g := g.trans (PF.of_g (N20.g))
    replace B3 := B3.grow (N20.g)
    replace B11 := B11.grow (N20.g)
    have hP := hP.grow (N20.g)
    have hk0 := hk0.grow (N20.g)
    try have hkid := hkid.grow (N20.g)
    have B20 := N20.blk
    refine sr_call rfl (rc_call go_syntax_printer_write ev_f (args_cons (ev_t rfl) (args_cons (ev_t rfl) (args_nil))) rfl) (write_ok [[32]] hP B20 (by omega) (by first | omega | (simp only [List.length_append, List.length_cons, List.length_nil, List.flatten_cons, List.flatten_nil, List.append_nil, tabsL, List.length_replicate]; omega) | (simp at hlen ⊢ <;> omega)) (by first | rfl | (simp [ht]; done) | (simpa using ht)) (Nat.le_of_ble_eq_true rfl)) ?_
    rintro v21 w21 ⟨rfl, hP, g21⟩
    refine ⟨fun h => absurd h (by decide), ?_⟩
    have g := g.trans g21
    replace B3 := B3.pf g21 rfl (by omega)
    replace B11 := B11.pf g21 rfl (by omega)
    replace B20 := B20.pf g21 rfl (by omega)
    have hk0 := hk0.pf g21 hD
    try have hkid := hkid.pf g21 hD
    refine sr_sub [(0, _, _), (3, _, _)] (sub_cons rfl (sub_cons rfl (sub_nil _))) ?_
    refine sr_nil (hK6 _ _ ?_)
    refine sc_seq fun K7 hK7 => ?_
    refine sc_text [3, 3, 0, 3, 0, 2] ?_
    refine sr_pu rfl (fun _ => rd_move (ev_t rfl)) ?_
    refine sr_pu rfl (fun _ => rd_field fo_api_Node_4 (ev_t rfl)) ?_
    refine sr_rd rfl (rd_load one_sl_api_Node (ev_t rfl) (fun _ => B3.at_ rfl)) ?_
    obtain ⟨hpe, p_25, c_25, hcell, hkid⟩ := kd_opt hk0 (i := 1) (by omega)
    refine sr_pu rfl (fun _ => rd_idxq el_sl_api_Node (ev_t rfl) ev_c (fun _ => by omega) (fun _ => hpe)) ?_
    refine sr_rd rfl (rd_loads agg_api_Node (ev_t rfl) rfl (fun _ => hcell)) ?_
    refine sr_call rfl (rc_call go_syntax_printer_block ev_f (args_cons (ev_t rfl) (args_cons (ev_t rfl) (args_nil))) rfl) (hB1 _ _ D n0 b _ k _ hkid hD hP (by first | omega | (simp only [List.length_append, List.length_cons, List.length_nil, List.flatten_cons, List.flatten_nil, List.append_nil, tabsL, List.length_replicate]; omega)) (by omega)) ?_
    rintro v27 w27 ⟨rfl, hP, g27⟩
    refine ⟨fun h => absurd h (by decide), ?_⟩
    have g := g.trans g27
    replace B3 := B3.pf g27 rfl (by omega)
    replace B11 := B11.pf g27 rfl (by omega)
    replace B20 := B20.pf g27 rfl (by omega)
    have hk0 := hk0.pf g27 hD
    try have hkid := hkid.pf g27 hD
    refine sr_sub [(0, _, _), (3, _, _)] (sub_cons rfl (sub_cons rfl (sub_nil _))) ?_
    refine sr_nil (hK7 _ _ ?_)
    refine sc_seq fun K8 hK8 => ?_
    refine sc_text [3, 0, 3, 3, 0, 3] ?_
    refine sr_pu rfl (fun _ => rd_field fo_api_Node_4 (ev_t rfl)) ?_
    refine sr_rd rfl (rd_load one_sl_api_Node (ev_t rfl) (fun _ => B3.at_ rfl)) ?_
    obtain ⟨hpe, p_30, c_30, hcell, hkid⟩ := kd_opt hk0 (i := 2) (by omega)
    refine sr_pu rfl (fun _ => rd_idxq el_sl_api_Node (ev_t rfl) ev_c (fun _ => by omega) (fun _ => hpe)) ?_
    refine sr_pu rfl (fun _ => rd_field fo_api_Node_0 (ev_t rfl)) ?_
    refine sr_rd rfl (rd_load one_int (ev_t rfl) (fun _ => hcell 0 _ rfl)) ?_
    refine sr_pu rfl (fun _ => rd_ne (ev_t rfl) ev_c) ?_
    refine sr_sub [(0, _, _), (3, _, _), (33, _, _)] (sub_cons rfl (sub_cons rfl (sub_cons rfl (sub_nil _)))) ?_
    refine sr_nil (hK8 _ _ ?_)
    refine sc_cond (ev_t rfl) (fun h2 => ?_) (fun h2 => ?_)
    · replace h2 : decide ((kidAt t 2).kind = 9) = false := by simpa using h2
      have hS2 := ih.t (i := 2) (by omega) (hx2.elim block_stmt fun h => h.elim if_stmt fun h => absurd (none_of h).1 (of_decide_eq_false h2)) hok
      rw [h2, cond_false] at e hlen
      simp only [List.length_append, List.length_cons, List.length_nil, List.flatten_cons, List.flatten_nil, List.append_nil, tabsL, List.length_replicate] at hlen
      refine sc_seq fun K9 hK9 => ?_
      refine sc_text [3, 1, 2] ?_
      refine sr_pu rfl (fun _ => rd_move (ev_t rfl)) ?_
      refine sr_buildSlice [_] rfl el_sl_string ze_string (parts_cons ev_c (parts_nil)) rfl rfl ?_
      intro b35 w35 N35
      have x35_3 := N35.ne B3
      have x35_11 := N35.ne B11
      have x35_20 := N35.ne B20
      have l35 := newge N35 g.size
      have g := g.trans (PF.of_g (N35.g))
      replace B3 := B3.grow (N35.g)
      replace B11 := B11.grow (N35.g)
      replace B20 := B20.grow (N35.g)
      have hP := hP.grow (N35.g)
      have hk0 := hk0.grow (N35.g)
      try have hkid := hkid.grow (N35.g)
      have B35 := N35.blk
      refine sr_call rfl (rc_call go_syntax_printer_write ev_f (args_cons (ev_t rfl) (args_cons (ev_t rfl) (args_nil))) rfl) (write_ok [[32, 101, 108, 115, 101, 32]] hP B35 (by omega) (by first | omega | (simp only [List.length_append, List.length_cons, List.length_nil, List.flatten_cons, List.flatten_nil, List.append_nil, tabsL, List.length_replicate]; omega) | (simp at hlen ⊢ <;> omega)) (by first | rfl | (simp [ht]; done) | (simpa using ht)) (Nat.le_of_ble_eq_true rfl)) ?_
      rintro v36 w36 ⟨rfl, hP, g36⟩
      refine ⟨fun h => absurd h (by decide), ?_⟩
      have g := g.trans g36
      replace B3 := B3.pf g36 rfl (by omega)
      replace B11 := B11.pf g36 rfl (by omega)
      replace B20 := B20.pf g36 rfl (by omega)
      replace B35 := B35.pf g36 rfl (by omega)
      have hk0 := hk0.pf g36 hD
      try have hkid := hkid.pf g36 hD
      refine sr_sub [(0, _, _), (3, _, _)] (sub_cons rfl (sub_cons rfl (sub_nil _))) ?_
      refine sr_nil (hK9 _ _ ?_)
      refine sc_text [3, 3, 0, 3, 0, 2] ?_
      refine sr_pu rfl (fun _ => rd_move (ev_t rfl)) ?_
      refine sr_pu rfl (fun _ => rd_field fo_api_Node_4 (ev_t rfl)) ?_
      refine sr_rd rfl (rd_load one_sl_api_Node (ev_t rfl) (fun _ => B3.at_ rfl)) ?_
      obtain ⟨hpe, p_40, c_40, hcell, hkid⟩ := kd_opt hk0 (i := 2) (by omega)
      refine sr_pu rfl (fun _ => rd_idxq el_sl_api_Node (ev_t rfl) ev_c (fun _ => by omega) (fun _ => hpe)) ?_
      refine sr_rd rfl (rd_loads agg_api_Node (ev_t rfl) rfl (fun _ => hcell)) ?_
      refine sr_call rfl (rc_call go_syntax_printer_stmt ev_f (args_cons (ev_t rfl) (args_cons (ev_t rfl) (args_nil))) rfl) (hS2 _ _ D n0 b _ k _ hkid hD hP (by first | omega | (simp only [List.length_append, List.length_cons, List.length_nil, List.flatten_cons, List.flatten_nil, List.append_nil, tabsL, List.length_replicate]; omega)) (by omega)) ?_
      rintro v42 w42 ⟨rfl, hP, g42⟩
      refine ⟨fun h => absurd h (by decide), ?_⟩
      have g := g.trans g42
      replace B3 := B3.pf g42 rfl (by omega)
      replace B11 := B11.pf g42 rfl (by omega)
      replace B20 := B20.pf g42 rfl (by omega)
      replace B35 := B35.pf g42 rfl (by omega)
      have hk0 := hk0.pf g42 hD
      try have hkid := hkid.pf g42 hD
      refine sr_sub [] (sub_nil _) ?_
      refine sr_nil (t_end0 rfl ?_)
      refine ⟨rfl, ?_, g⟩
      rw [e]; simpa only [List.append_assoc, List.flatten_cons, List.flatten_nil, List.append_nil] using hP
    replace h2 : decide ((kidAt t 2).kind = 9) = true := by simpa using h2
    rw [h2, cond_true] at e
    refine sc_skip (t_end0 rfl ?_)
    refine ⟨rfl, ?_, g⟩
    rw [e]; simpa only [List.append_assoc, List.flatten_cons, List.flatten_nil, List.append_nil] using hP
  (try simp only [bsimp] at h1)
  refine sc_seq fun K10 hK10 => ?_
  refine sc_text [3, 3] ?_
  refine sr_pu rfl (fun _ => rd_eq (ev_t rfl) ev_c) ?_
  refine sr_pu rfl (fun _ => rd_assign (ev_t rfl)) ?_
  refine sr_sub [(0, _, _), (3, _, _), (7, _, _), (43, _, _)] (sub_cons rfl (sub_cons rfl (sub_cons rfl (sub_cons rfl (sub_nil _))))) ?_
  refine sr_nil (hK10 _ _ ?_)
  refine sc_cond (ev_t rfl) (fun h3 => ?_) (fun h3 => ?_)
  · replace h3 := of_decide_eq_true h3
    replace hx : stmtB t = true := hx.resolve_left fun h => by omega
    rw [pst_stmt hx] at hlen ⊢
    obtain ⟨hl, he0, hb1⟩ := sh19 h3 hx
    have hB1 := ih.b (by omega) hb1 hok
    have hc0 := count_kidAt (t := t) (i := 0) (by omega)
    have hc1 := count_kidAt (t := t) (i := 1) (by omega)
    have e := stT_19 h3 hl k
    have hlr : l.length + 4 < 100000000 := by
      rw [e] at hlen
      cases h : decide ((kidAt t 0).kind = 9) <;> rw [h] at hlen <;> simp only [cond_true, cond_false, List.length_append, List.length_cons, List.length_nil, List.flatten_cons, List.flatten_nil, List.append_nil, tabsL, List.length_replicate] at hlen <;> omega
    refine sc_seq fun K11 hK11 => ?_
    refine sc_text [3, 1, 2] ?_
    refine sr_pu rfl (fun _ => rd_move (ev_t rfl)) ?_
    refine sr_buildSlice [_] rfl el_sl_string ze_string (parts_cons ev_c (parts_nil)) rfl rfl ?_
    intro b46 w46 N46
    have x46_3 := N46.ne B3
    have l46 := newge N46 g.size
    have g := g.trans (PF.of_g (N46.g))
    replace B3 := B3.grow (N46.g)
    have hP := hP.grow (N46.g)
    have hk0 := hk0.grow (N46.g)
    try have hkid := hkid.grow (N46.g)
    have B46 := N46.blk
    refine sr_call rfl (rc_call go_syntax_printer_write ev_f (args_cons (ev_t rfl) (args_cons (ev_t rfl) (args_nil))) rfl) (write_ok [[102, 111, 114, 32]] hP B46 (by omega) (by first | omega | (simp only [List.length_append, List.length_cons, List.length_nil, List.flatten_cons, List.flatten_nil, List.append_nil, tabsL, List.length_replicate]; omega) | (simp at hlen ⊢ <;> omega)) (by first | rfl | (simp [ht]; done) | (simpa using ht)) (Nat.le_of_ble_eq_true rfl)) ?_
    rintro v47 w47 ⟨rfl, hP, g47⟩
    refine ⟨fun h => absurd h (by decide), ?_⟩
    have g := g.trans g47
    replace B3 := B3.pf g47 rfl (by omega)
    replace B46 := B46.pf g47 rfl (by omega)
    have hk0 := hk0.pf g47 hD
    try have hkid := hkid.pf g47 hD
    refine sr_sub [(0, _, _), (3, _, _)] (sub_cons rfl (sub_cons rfl (sub_nil _))) ?_
    refine sr_nil (hK11 _ _ ?_)
    refine sc_seq fun K12 hK12 => ?_
    refine sc_seq fun K13 hK13 => ?_
    refine sc_text [3, 0, 3, 3, 0, 3] ?_
    refine sr_pu rfl (fun _ => rd_field fo_api_Node_4 (ev_t rfl)) ?_
    refine sr_rd rfl (rd_load one_sl_api_Node (ev_t rfl) (fun _ => B3.at_ rfl)) ?_
    obtain ⟨hpe, p_50, c_50, hcell, hkid⟩ := kd_opt hk0 (i := 0) (by omega)
    refine sr_pu rfl (fun _ => rd_idxq el_sl_api_Node (ev_t rfl) ev_c (fun _ => by omega) (fun _ => hpe)) ?_
    refine sr_pu rfl (fun _ => rd_field fo_api_Node_0 (ev_t rfl)) ?_
    refine sr_rd rfl (rd_load one_int (ev_t rfl) (fun _ => hcell 0 _ rfl)) ?_
    refine sr_pu rfl (fun _ => rd_ne (ev_t rfl) ev_c) ?_
    refine sr_sub [(0, _, _), (3, _, _), (53, _, _)] (sub_cons rfl (sub_cons rfl (sub_cons rfl (sub_nil _)))) ?_
    refine sr_nil (hK13 _ _ ?_)
    refine sc_cond (ev_t rfl) (fun h4 => ?_) (fun h4 => ?_)
    · replace h4 : decide ((kidAt t 0).kind = 9) = false := by simpa using h4
      have hE0 := ih.e (i := 0) (by omega) (he0.resolve_left fun h => absurd (none_of h).1 (of_decide_eq_false h4)) hok
      rw [h4, cond_false] at e
      rw [e] at hlen
      simp only [List.length_append, List.length_cons, List.length_nil, List.flatten_cons, List.flatten_nil, List.append_nil, tabsL, List.length_replicate] at hlen
      refine sc_seq fun K14 hK14 => ?_
      refine sc_text [3, 3, 0, 3, 0, 2] ?_
      refine sr_pu rfl (fun _ => rd_move (ev_t rfl)) ?_
      refine sr_pu rfl (fun _ => rd_field fo_api_Node_4 (ev_t rfl)) ?_
      refine sr_rd rfl (rd_load one_sl_api_Node (ev_t rfl) (fun _ => B3.at_ rfl)) ?_
      obtain ⟨hpe, p_57, c_57, hcell, hkid⟩ := kd_opt hk0 (i := 0) (by omega)
      refine sr_pu rfl (fun _ => rd_idxq el_sl_api_Node (ev_t rfl) ev_c (fun _ => by omega) (fun _ => hpe)) ?_
      refine sr_rd rfl (rd_loads agg_api_Node (ev_t rfl) rfl (fun _ => hcell)) ?_
      refine sr_call rfl (rc_call go_syntax_printer_expr ev_f (args_cons (ev_t rfl) (args_cons (ev_t rfl) (args_nil))) rfl) (hE0 _ _ D n0 b _ k _ hkid hD hP (by first | omega | (simp only [List.length_append, List.length_cons, List.length_nil, List.flatten_cons, List.flatten_nil, List.append_nil, tabsL, List.length_replicate]; omega)) (by omega)) ?_
      rintro v59 w59 ⟨rfl, hP, g59⟩
      refine ⟨fun h => absurd h (by decide), ?_⟩
      have g := g.trans g59
      replace B3 := B3.pf g59 rfl (by omega)
      replace B46 := B46.pf g59 rfl (by omega)
      have hk0 := hk0.pf g59 hD
      try have hkid := hkid.pf g59 hD
      refine sr_sub [(0, _, _), (3, _, _)] (sub_cons rfl (sub_cons rfl (sub_nil _))) ?_
      refine sr_nil (hK14 _ _ ?_)
      refine sc_text [3, 1, 2] ?_
      refine sr_pu rfl (fun _ => rd_move (ev_t rfl)) ?_
      refine sr_buildSlice [_] rfl el_sl_string ze_string (parts_cons ev_c (parts_nil)) rfl rfl ?_
      intro b61 w61 N61
      have x61_3 := N61.ne B3
      have x61_46 := N61.ne B46
      have l61 := newge N61 g.size
      have g := g.trans (PF.of_g (N61.g))
      replace B3 := B3.grow (N61.g)
      replace B46 := B46.grow (N61.g)
      have hP := hP.grow (N61.g)
      have hk0 := hk0.grow (N61.g)
      try have hkid := hkid.grow (N61.g)
      have B61 := N61.blk
      refine sr_call rfl (rc_call go_syntax_printer_write ev_f (args_cons (ev_t rfl) (args_cons (ev_t rfl) (args_nil))) rfl) (write_ok [[32]] hP B61 (by omega) (by first | omega | (simp only [List.length_append, List.length_cons, List.length_nil, List.flatten_cons, List.flatten_nil, List.append_nil, tabsL, List.length_replicate]; omega) | (simp at hlen ⊢ <;> omega)) (by first | rfl | (simp [ht]; done) | (simpa using ht)) (Nat.le_of_ble_eq_true rfl)) ?_
      rintro v62 w62 ⟨rfl, hP, g62⟩
      refine ⟨fun h => absurd h (by decide), ?_⟩
      have g := g.trans g62
      replace B3 := B3.pf g62 rfl (by omega)
      replace B46 := B46.pf g62 rfl (by omega)
      replace B61 := B61.pf g62 rfl (by omega)
      have hk0 := hk0.pf g62 hD
      try have hkid := hkid.pf g62 hD
      refine sr_sub [(0, _, _), (3, _, _)] (sub_cons rfl (sub_cons rfl (sub_nil _))) ?_
      refine sr_nil (hK12 _ _ ?_)
      refine sc_text [3, 3, 0, 3, 0, 2] ?_
      refine sr_pu rfl (fun _ => rd_move (ev_t rfl)) ?_
      refine sr_pu rfl (fun _ => rd_field fo_api_Node_4 (ev_t rfl)) ?_
      refine sr_rd rfl (rd_load one_sl_api_Node (ev_t rfl) (fun _ => B3.at_ rfl)) ?_
      obtain ⟨hpe, p_66, c_66, hcell, hkid⟩ := kd_opt hk0 (i := 1) (by omega)
      refine sr_pu rfl (fun _ => rd_idxq el_sl_api_Node (ev_t rfl) ev_c (fun _ => by omega) (fun _ => hpe)) ?_
      refine sr_rd rfl (rd_loads agg_api_Node (ev_t rfl) rfl (fun _ => hcell)) ?_
      refine sr_call rfl (rc_call go_syntax_printer_block ev_f (args_cons (ev_t rfl) (args_cons (ev_t rfl) (args_nil))) rfl) (hB1 _ _ D n0 b _ k _ hkid hD hP (by first | omega | (simp only [List.length_append, List.length_cons, List.length_nil, List.flatten_cons, List.flatten_nil, List.append_nil, tabsL, List.length_replicate]; omega)) (by omega)) ?_
      rintro v68 w68 ⟨rfl, hP, g68⟩
      refine ⟨fun h => absurd h (by decide), ?_⟩
      have g := g.trans g68
      replace B3 := B3.pf g68 rfl (by omega)
      replace B46 := B46.pf g68 rfl (by omega)
      replace B61 := B61.pf g68 rfl (by omega)
      have hk0 := hk0.pf g68 hD
      try have hkid := hkid.pf g68 hD
      refine sr_sub [] (sub_nil _) ?_
      refine sr_nil (t_end0 rfl ?_)
      refine ⟨rfl, ?_, g⟩
      rw [e]; simpa only [List.append_assoc, List.flatten_cons, List.flatten_nil, List.append_nil] using hP
    replace h4 : decide ((kidAt t 0).kind = 9) = true := by simpa using h4
    rw [h4, cond_true] at e
    rw [e] at hlen
    simp only [List.length_append, List.length_cons, List.length_nil, List.flatten_cons, List.flatten_nil, List.append_nil, tabsL, List.length_replicate] at hlen
    refine sc_skip (hK12 _ _ ?_)
    refine sc_sub [(0, _, _), (3, _, _)] (sub_cons rfl (sub_cons rfl (sub_nil _))) ?_
    refine sc_text [3, 3, 0, 3, 0, 2] ?_
    refine sr_pu rfl (fun _ => rd_move (ev_t rfl)) ?_
    refine sr_pu rfl (fun _ => rd_field fo_api_Node_4 (ev_t rfl)) ?_
    refine sr_rd rfl (rd_load one_sl_api_Node (ev_t rfl) (fun _ => B3.at_ rfl)) ?_
    obtain ⟨hpe, p_66, c_66, hcell, hkid⟩ := kd_opt hk0 (i := 1) (by omega)
    refine sr_pu rfl (fun _ => rd_idxq el_sl_api_Node (ev_t rfl) ev_c (fun _ => by omega) (fun _ => hpe)) ?_
    refine sr_rd rfl (rd_loads agg_api_Node (ev_t rfl) rfl (fun _ => hcell)) ?_
    refine sr_call rfl (rc_call go_syntax_printer_block ev_f (args_cons (ev_t rfl) (args_cons (ev_t rfl) (args_nil))) rfl) (hB1 _ _ D n0 b _ k _ hkid hD hP (by first | omega | (simp only [List.length_append, List.length_cons, List.length_nil, List.flatten_cons, List.flatten_nil, List.append_nil, tabsL, List.length_replicate]; omega)) (by omega)) ?_
    rintro v68 w68 ⟨rfl, hP, g68⟩
    refine ⟨fun h => absurd h (by decide), ?_⟩
    have g := g.trans g68
    replace B3 := B3.pf g68 rfl (by omega)
    replace B46 := B46.pf g68 rfl (by omega)
    have hk0 := hk0.pf g68 hD
    try have hkid := hkid.pf g68 hD
    refine sr_sub [] (sub_nil _) ?_
    refine sr_nil (t_end0 rfl ?_)
    refine ⟨rfl, ?_, g⟩
    rw [e]; simpa only [List.append_assoc, List.flatten_cons, List.flatten_nil, List.append_nil] using hP
  (try simp only [bsimp] at h3)
  refine sc_seq fun K15 hK15 => ?_
  refine sc_text [3, 3] ?_
  refine sr_pu rfl (fun _ => rd_eq (ev_t rfl) ev_c) ?_
  refine sr_pu rfl (fun _ => rd_assign (ev_t rfl)) ?_
  refine sr_sub [(0, _, _), (3, _, _), (7, _, _), (69, _, _)] (sub_cons rfl (sub_cons rfl (sub_cons rfl (sub_cons rfl (sub_nil _))))) ?_
  refine sr_nil (hK15 _ _ ?_)
  refine sc_cond (ev_t rfl) (fun h5 => ?_) (fun h5 => ?_)
  · replace h5 := of_decide_eq_true h5
    replace hx : stmtB t = true := hx.resolve_left fun h => by omega
    rw [pst_stmt hx] at hlen ⊢
    have hB := ih.b0 (sh10s h5 hx) hok
    have e := stT_10 h5 k
    rw [e] at hlen
    refine sc_text [3, 0, 2] ?_
    refine sr_pu rfl (fun _ => rd_move (ev_t rfl)) ?_
    refine sr_rd rfl (rd_loads agg_api_Node (ev_t rfl) rfl (fun _ => B3.row)) ?_
    refine sr_call rfl (rc_call go_syntax_printer_block ev_f (args_cons (ev_t rfl) (args_cons (ev_t rfl) (args_nil))) rfl) (hB _ _ D n0 b _ k _ hk0 hD hP (by first | omega | (simp only [List.length_append, List.length_cons, List.length_nil, List.flatten_cons, List.flatten_nil, List.append_nil, tabsL, List.length_replicate]; omega)) hc) ?_
    rintro v73 w73 ⟨rfl, hP, g73⟩
    refine ⟨fun h => absurd h (by decide), ?_⟩
    have g := g.trans g73
    replace B3 := B3.pf g73 rfl (by omega)
    have hk0 := hk0.pf g73 hD
    try have hkid := hkid.pf g73 hD
    refine sr_sub [] (sub_nil _) ?_
    refine sr_nil (t_end0 rfl ?_)
    refine ⟨rfl, ?_, g⟩
    rw [e]; simpa only [List.append_assoc, List.flatten_cons, List.flatten_nil, List.append_nil] using hP
  (try simp only [bsimp] at h5)
  refine sc_seq fun K16 hK16 => ?_
  refine sc_text [3, 3] ?_
  refine sr_pu rfl (fun _ => rd_eq (ev_t rfl) ev_c) ?_
  refine sr_pu rfl (fun _ => rd_assign (ev_t rfl)) ?_
  refine sr_sub [(0, _, _), (3, _, _), (7, _, _), (74, _, _)] (sub_cons rfl (sub_cons rfl (sub_cons rfl (sub_cons rfl (sub_nil _))))) ?_
  refine sr_nil (hK16 _ _ ?_)
  refine sc_cond (ev_t rfl) (fun h6 => ?_) (fun h6 => ?_)
  · replace h6 := of_decide_eq_true h6
    replace hx : stmtB t = true := hx.resolve_left fun h => by omega
    rw [pst_stmt hx] at hlen ⊢
    have hcs := List.all_eq_true.1 (sh22 h6 hx)
    have e := stT_22 h6 (fun c hm => (sh23 (hcs c hm)).2.1) k
    rw [e] at hlen
    simp only [List.length_append, List.length_cons, List.length_nil, List.flatten_cons, List.flatten_nil, List.append_nil, tabsL, List.length_replicate] at hlen
    have hst : ∀ x ∈ t.kids, PrOk fn_syntax_printer_stmt pst x := fun x hm => (ih x (count_mem hm)).st (by unfold pstB; rw [hcs x hm]; simp) (okNd_kid hok hm)
    rw [← plX_congr (f := pst) (fun x hm => pst_case (sh23 (hcs x hm)).1)] at hlen e
    refine sc_seq fun K17 hK17 => ?_
    refine sc_text [3, 1, 2] ?_
    refine sr_pu rfl (fun _ => rd_move (ev_t rfl)) ?_
    refine sr_buildSlice [_] rfl el_sl_string ze_string (parts_cons ev_c (parts_nil)) rfl rfl ?_
    intro b77 w77 N77
    have x77_3 := N77.ne B3
    have l77 := newge N77 g.size
    have g := g.trans (PF.of_g (N77.g))
    replace B3 := B3.grow (N77.g)
    have hP := hP.grow (N77.g)
    have hk0 := hk0.grow (N77.g)
    try have hkid := hkid.grow (N77.g)
    have B77 := N77.blk
    refine sr_call rfl (rc_call go_syntax_printer_write ev_f (args_cons (ev_t rfl) (args_cons (ev_t rfl) (args_nil))) rfl) (write_ok [[115, 101, 108, 101, 99, 116, 32, 123]] hP B77 (by omega) (by first | omega | (simp only [List.length_append, List.length_cons, List.length_nil, List.flatten_cons, List.flatten_nil, List.append_nil, tabsL, List.length_replicate]; omega) | (simp at hlen ⊢ <;> omega)) (by first | rfl | (simp [ht]; done) | (simpa using ht)) (Nat.le_of_ble_eq_true rfl)) ?_
    rintro v78 w78 ⟨rfl, hP, g78⟩
    refine ⟨fun h => absurd h (by decide), ?_⟩
    have g := g.trans g78
    replace B3 := B3.pf g78 rfl (by omega)
    replace B77 := B77.pf g78 rfl (by omega)
    have hk0 := hk0.pf g78 hD
    try have hkid := hkid.pf g78 hD
    refine sr_sub [(0, _, _), (3, _, _)] (sub_cons rfl (sub_cons rfl (sub_nil _))) ?_
    refine sr_nil (hK17 _ _ ?_)
    refine sc_seq fun K18 hK18 => ?_
    refine sc_seq fun K19 hK19 => ?_
    refine sc_text [3, 0, 3, 3] ?_
    refine sr_pu rfl (fun _ => rd_field fo_api_Node_4 (ev_t rfl)) ?_
    refine sr_rd rfl (rd_load one_sl_api_Node (ev_t rfl) (fun _ => B3.at_ rfl)) ?_
    refine sr_pu rfl (fun _ => rd_len el_sl_api_Node (ev_t rfl)) ?_
    refine sr_pu rfl (fun _ => rd_move ev_c) ?_
    refine sr_sub [(0, _, _), (80, _, _), (81, _, _), (82, _, _)] (sub_cons rfl (sub_cons rfl (sub_cons rfl (sub_cons rfl (sub_nil _))))) ?_
    refine sr_nil (hK19 _ _ ?_)
    refine sc_block ?_
    refine sc_loop2 (fun (i : Nat) u1 => (i ≤ t.kids.length ∧ Prn n0 b (l ++ [115, 101, 108, 101, 99, 116, 32, 123] ++ plX (t.kids.take i) pst k) k u1 ∧ Kd u1 D t.kids (.slice p t.kids.length c)) ∧ PF n0 b w78 u1) [(0, True, _), (80, True, _), (81, True, _)] (fun (i : Nat) => [(82, True, .int .i64 i)]) (fun (i : Nat) => t.kids.length - i) (0) ⟨⟨Nat.zero_le _, by simpa [plX] using hP, hk0⟩, PF.refl _ _ _⟩ (sub_cons rfl (sub_cons rfl (sub_cons rfl (sub_cons rfl (sub_nil _))))) ?_
    rintro i u1 ⟨hI1, gl1⟩
    have g := g.trans gl1
    obtain ⟨hi, hP, hk0⟩ := hI1
    refine sc_seq fun K20 hK20 => ?_
    refine sc_text [3] ?_
    refine sr_pu rfl (fun _ => rd_lt (ev_t rfl) (ev_t rfl)) ?_
    refine sr_nil (hK20 _ _ ?_)
    refine sc_sub [(0, _, _), (80, _, _), (81, _, _), (82, _, _), (83, _, _)] (sub_cons rfl (sub_cons rfl (sub_cons rfl (sub_cons rfl (sub_cons rfl (sub_nil _)))))) ?_
    refine sc_seq fun K21 hK21 => ?_
    refine sc_cond (ev_t rfl) (fun h7 => ?_) (fun h7 => ?_)
    · replace h7 : i < t.kids.length := by simp only [decide_eq_true_eq] at h7; omega
      obtain ⟨_, _, hpe, _, hks⟩ := id hk0
      obtain ⟨b9, o9, rfl, hD9, xs, hR, hX⟩ := hks (by omega)
      injection hpe with hpe _ hce
      subst hpe hce
      obtain ⟨p9, c9, hcell, hkid⟩ := kd_at hR hX h7
      have hjs := plX_snoc t.kids pst k h7
      have hjl := plX_le t.kids pst k (i + 1)
      rw [hjs] at hjl
      have hcs := sum_le t.kids h7
      simp only [List.length_append, List.length_cons, List.length_nil, List.flatten_cons, List.flatten_nil, List.append_nil, tabsL, List.length_replicate] at hjl
      refine sc_skip (hK21 _ _ ?_)
      refine sc_sub [(0, _, _), (80, _, _), (81, _, _), (82, _, _)] (sub_cons rfl (sub_cons rfl (sub_cons rfl (sub_cons rfl (sub_nil _))))) ?_
      refine sc_seq fun K22 hK22 => ?_
      refine sc_block ?_
      refine sc_seq fun K23 hK23 => ?_
      refine sc_text [3, 0, 1, 2] ?_
      refine sr_pu rfl (fun _ => rd_idx el_sl_api_Node (ev_t rfl) (ev_t rfl) (fun _ => by omega)) ?_
      refine sr_rd rfl (rd_loads agg_api_Node (ev_t rfl) rfl (fun _ => hcell)) ?_
      refine sr_alloc rfl ze_api_Node rfl ?_
      intro b5 w5 N5
      have l5 := newge N5 g.size
      try have l5_gl1 := newge N5 gl1.size
      have g := g.trans (PF.of_g (N5.g))
      try have gl1 := gl1.trans (PF.of_g (N5.g))
      have hP := hP.grow (N5.g)
      have hk0 := hk0.grow (N5.g)
      try have hkid := hkid.grow (N5.g)
      have B5 := N5.blk
      refine sr_store_all rfl sz_api_Node (ev_t rfl) (ev_t rfl) rfl rfl B5 rfl rfl ?_
      intro wS1 hgS1 hzS1
      have C5 := B5
      clear B5
      intro B5
      have g := pf_only g hgS1 (by omega)
      first | replace gl1 := pf_only gl1 hgS1 (by omega) | clear gl1 | skip
      have hP := hP.keep hgS1 C5 rfl (by omega) (by omega)
      have hk0 := hk0.st hgS1 hD (by omega)
      have hkid := hkid.st hgS1 hD (by omega)
      refine sr_sub [(0, _, _), (5, _, _), (80, _, _), (81, _, _), (82, _, _)] (sub_cons rfl (sub_cons rfl (sub_cons rfl (sub_cons rfl (sub_cons rfl (sub_nil _)))))) ?_
      refine sr_nil (hK23 _ _ ?_)
      refine sc_seq fun K24 hK24 => ?_
      refine sc_text [3, 2] ?_
      refine sr_pu rfl (fun _ => rd_move (ev_t rfl)) ?_
      refine sr_call rfl (rc_call go_syntax_printer_line ev_f (args_cons (ev_t rfl) (args_nil)) rfl) (line_ok hP (by first | omega | (simp only [List.length_append, List.length_cons, List.length_nil, List.flatten_cons, List.flatten_nil, List.append_nil, tabsL, List.length_replicate]; omega))) ?_
      rintro v87 w87 ⟨rfl, hP, g87⟩
      refine ⟨fun h => absurd h (by decide), ?_⟩
      have g := g.trans g87
      try have gl1 := gl1.trans g87
      replace B5 := B5.pf g87 rfl (by omega)
      have hk0 := hk0.pf g87 hD
      try have hkid := hkid.pf g87 hD
      refine sr_sub [(0, _, _), (5, _, _), (80, _, _), (81, _, _), (82, _, _)] (sub_cons rfl (sub_cons rfl (sub_cons rfl (sub_cons rfl (sub_cons rfl (sub_nil _)))))) ?_
      refine sr_nil (hK24 _ _ ?_)
      refine sc_text [3, 0, 2] ?_
      refine sr_pu rfl (fun _ => rd_move (ev_t rfl)) ?_
      refine sr_rd rfl (rd_loads agg_api_Node (ev_t rfl) rfl (fun _ => B5.row)) ?_
      refine sr_call rfl (rc_call go_syntax_printer_stmt ev_f (args_cons (ev_t rfl) (args_cons (ev_t rfl) (args_nil))) rfl) (hst t.kids[i] (List.getElem_mem h7) _ _ D n0 b _ k _ hkid hD hP (by first | omega | (simp only [List.length_append, List.length_cons, List.length_nil, List.flatten_cons, List.flatten_nil, List.append_nil, tabsL, List.length_replicate]; omega)) (by omega)) ?_
      rintro v90 w90 ⟨rfl, hP, g90⟩
      refine ⟨fun h => absurd h (by decide), ?_⟩
      have g := g.trans g90
      try have gl1 := gl1.trans g90
      replace B5 := B5.pf g90 rfl (by omega)
      have hk0 := hk0.pf g90 hD
      try have hkid := hkid.pf g90 hD
      refine sr_sub [(0, _, _), (80, _, _), (81, _, _), (82, _, _)] (sub_cons rfl (sub_cons rfl (sub_cons rfl (sub_cons rfl (sub_nil _))))) ?_
      refine sr_nil (hK22 _ _ ?_)
      refine sc_text [3, 3] ?_
      refine sr_pu rfl (fun _ => rd_add (ev_t rfl) ev_c (fun _ => by omega)) ?_
      refine sr_pu rfl (fun _ => rd_move (ev_t rfl)) ?_
      refine sr_sub [(82, _, _), (0, _, _), (80, _, _), (81, _, _)] (sub_cons rfl (sub_cons rfl (sub_cons rfl (sub_cons rfl (sub_nil _))))) ?_
      refine sr_nil (fun a ha => ?_)
      refine ⟨i + 1, ha, ⟨⟨h7, ?_, hk0⟩, gl1⟩, by omega⟩
      rw [hjs]; simpa only [List.append_assoc] using hP
    replace h7 : i = t.kids.length := by simp only [decide_eq_false_iff_not] at h7; omega
    rw [h7, List.take_length] at hP
    refine sc_exit rfl (hK18 _ _ ?_)
    refine sc_sub [(0, _, _)] (sub_cons rfl (sub_nil _)) ?_
    refine sc_seq fun K25 hK25 => ?_
    refine sc_text [3, 2] ?_
    refine sr_pu rfl (fun _ => rd_move (ev_t rfl)) ?_
    refine sr_call rfl (rc_call go_syntax_printer_line ev_f (args_cons (ev_t rfl) (args_nil)) rfl) (line_ok hP (by first | omega | (simp only [List.length_append, List.length_cons, List.length_nil, List.flatten_cons, List.flatten_nil, List.append_nil, tabsL, List.length_replicate]; omega))) ?_
    rintro v93 w93 ⟨rfl, hP, g93⟩
    refine ⟨fun h => absurd h (by decide), ?_⟩
    have g := g.trans g93
    try have gl1 := gl1.trans g93
    have hk0 := hk0.pf g93 hD
    try have hkid := hkid.pf g93 hD
    refine sr_sub [(0, _, _), (92, _, _)] (sub_cons rfl (sub_cons rfl (sub_nil _))) ?_
    refine sr_nil (hK25 _ _ ?_)
    refine sc_text [3, 1, 2] ?_
    refine sr_pu rfl (fun _ => rd_move (ev_t rfl)) ?_
    refine sr_buildSlice [_] rfl el_sl_string ze_string (parts_cons ev_c (parts_nil)) rfl rfl ?_
    intro b95 w95 N95
    have l95 := newge N95 g.size
    try have l95_gl1 := newge N95 gl1.size
    have g := g.trans (PF.of_g (N95.g))
    try have gl1 := gl1.trans (PF.of_g (N95.g))
    have hP := hP.grow (N95.g)
    have hk0 := hk0.grow (N95.g)
    try have hkid := hkid.grow (N95.g)
    have B95 := N95.blk
    refine sr_call rfl (rc_call go_syntax_printer_write ev_f (args_cons (ev_t rfl) (args_cons (ev_t rfl) (args_nil))) rfl) (write_ok [[125]] hP B95 (by omega) (by first | omega | (simp only [List.length_append, List.length_cons, List.length_nil, List.flatten_cons, List.flatten_nil, List.append_nil, tabsL, List.length_replicate]; omega) | (simp at hlen ⊢ <;> omega)) (by first | rfl | (simp [ht]; done) | (simpa using ht)) (Nat.le_of_ble_eq_true rfl)) ?_
    rintro v96 w96 ⟨rfl, hP, g96⟩
    refine ⟨fun h => absurd h (by decide), ?_⟩
    have g := g.trans g96
    try have gl1 := gl1.trans g96
    replace B95 := B95.pf g96 rfl (by omega)
    have hk0 := hk0.pf g96 hD
    try have hkid := hkid.pf g96 hD
    refine sr_sub [(0, _, _), (92, _, _), (94, _, _), (95, _, _)] (sub_cons rfl (sub_cons rfl (sub_cons rfl (sub_cons rfl (sub_nil _))))) ?_
    refine sr_nil (t_end0 rfl ?_)
    refine ⟨rfl, ?_, g⟩
    rw [e]; simpa only [List.append_assoc, List.flatten_cons, List.flatten_nil, List.append_nil] using hP
  (try simp only [bsimp] at h6)
  refine sc_seq fun K26 hK26 => ?_
  refine sc_text [3, 3] ?_
  refine sr_pu rfl (fun _ => rd_eq (ev_t rfl) ev_c) ?_
  refine sr_pu rfl (fun _ => rd_assign (ev_t rfl)) ?_
  refine sr_sub [(0, _, _), (3, _, _), (97, _, _)] (sub_cons rfl (sub_cons rfl (sub_cons rfl (sub_nil _)))) ?_
  refine sr_nil (hK26 _ _ ?_)
  refine sc_cond (ev_t rfl) (fun h8 => ?_) (fun h8 => ?_)
  · replace h8 := of_decide_eq_true h8
    replace hx : caseB t = true := hx.elim (fun h => h.2) fun h => by unfold stmtB at h; rw [h8] at h; revert h; rw [show stK 23 = false by decide]; simp
    obtain ⟨_, hl, hcm, hb1⟩ := sh23 hx
    have e : pst t k = pcsX t k := by rw [pst_case h8]
    rw [e, pcsX] at hlen
    rw [pcsX] at e
    have hc0 := count_kidAt (t := t) (i := 0) (by omega)
    have hc1 := count_kidAt (t := t) (i := 1) (by omega)
    have hcn1 : count (kidAt t 1) = 1 + ((kidAt t 1).kids.map count).sum := count_eq _
    have hss := List.all_eq_true.1 (sh10 hb1)
    have hst : ∀ x ∈ (kidAt t 1).kids, PrOk fn_syntax_printer_stmt pst x := fun x hm => (ih x (Nat.lt_trans (count_mem hm) hc1)).st (stmt_pstB (hss x hm)) (okNd_kid (okNd_kidAt' hok (by omega)) hm)
    rw [← plX_congr (f := pst) (g := stT) (fun x hm => pst_stmt (hss x hm))] at hlen e
    refine sc_seq fun K27 hK27 => ?_
    refine sc_seq fun K28 hK28 => ?_
    refine sc_text [3, 0, 3, 3, 0, 3] ?_
    refine sr_pu rfl (fun _ => rd_field fo_api_Node_4 (ev_t rfl)) ?_
    refine sr_rd rfl (rd_load one_sl_api_Node (ev_t rfl) (fun _ => B3.at_ rfl)) ?_
    obtain ⟨hpe, p_101, c_101, hcell, hkid⟩ := kd_opt hk0 (i := 0) (by omega)
    refine sr_pu rfl (fun _ => rd_idxq el_sl_api_Node (ev_t rfl) ev_c (fun _ => by omega) (fun _ => hpe)) ?_
    refine sr_pu rfl (fun _ => rd_field fo_api_Node_0 (ev_t rfl)) ?_
    refine sr_rd rfl (rd_load one_int (ev_t rfl) (fun _ => hcell 0 _ rfl)) ?_
    refine sr_pu rfl (fun _ => rd_eq (ev_t rfl) ev_c) ?_
    refine sr_sub [(0, _, _), (3, _, _), (104, _, _)] (sub_cons rfl (sub_cons rfl (sub_cons rfl (sub_nil _)))) ?_
    refine sr_nil (hK28 _ _ ?_)
    refine sc_cond (ev_t rfl) (fun h9 => ?_) (fun h9 => ?_)
    · replace h9 : decide ((kidAt t 0).kind = 9) = true := by simpa using h9
      rw [h9, cond_true] at hlen e
      simp only [List.length_append, List.length_cons, List.length_nil, List.flatten_cons, List.flatten_nil, List.append_nil, tabsL, List.length_replicate] at hlen
      refine sc_text [3, 1, 2] ?_
      refine sr_pu rfl (fun _ => rd_move (ev_t rfl)) ?_
      refine sr_buildSlice [_] rfl el_sl_string ze_string (parts_cons ev_c (parts_nil)) rfl rfl ?_
      intro b106 w106 N106
      have x106_3 := N106.ne B3
      have l106 := newge N106 g.size
      have g := g.trans (PF.of_g (N106.g))
      replace B3 := B3.grow (N106.g)
      have hP := hP.grow (N106.g)
      have hk0 := hk0.grow (N106.g)
      try have hkid := hkid.grow (N106.g)
      have B106 := N106.blk
      refine sr_call rfl (rc_call go_syntax_printer_write ev_f (args_cons (ev_t rfl) (args_cons (ev_t rfl) (args_nil))) rfl) (write_ok [[100, 101, 102, 97, 117, 108, 116, 58]] hP B106 (by omega) (by first | omega | (simp only [List.length_append, List.length_cons, List.length_nil, List.flatten_cons, List.flatten_nil, List.append_nil, tabsL, List.length_replicate]; omega) | (simp at hlen ⊢ <;> omega)) (by first | rfl | (simp [ht]; done) | (simpa using ht)) (Nat.le_of_ble_eq_true rfl)) ?_
      rintro v107 w107 ⟨rfl, hP, g107⟩
      refine ⟨fun h => absurd h (by decide), ?_⟩
      have g := g.trans g107
      replace B3 := B3.pf g107 rfl (by omega)
      replace B106 := B106.pf g107 rfl (by omega)
      have hk0 := hk0.pf g107 hD
      try have hkid := hkid.pf g107 hD
      refine sr_sub [(0, _, _), (3, _, _)] (sub_cons rfl (sub_cons rfl (sub_nil _))) ?_
      refine sr_nil (hK27 _ _ ?_)
      refine sc_text [3, 3, 0, 3, 3, 0, 2] ?_
      refine sr_pu rfl (fun _ => rd_move (ev_t rfl)) ?_
      refine sr_pu rfl (fun _ => rd_field fo_api_Node_4 (ev_t rfl)) ?_
      refine sr_rd rfl (rd_load one_sl_api_Node (ev_t rfl) (fun _ => B3.at_ rfl)) ?_
      obtain ⟨hpe, p_123, c_123, hcell, hkid⟩ := kd_opt hk0 (i := 1) (by omega)
      refine sr_pu rfl (fun _ => rd_idxq el_sl_api_Node (ev_t rfl) ev_c (fun _ => by omega) (fun _ => hpe)) ?_
      refine sr_pu rfl (fun _ => rd_field fo_api_Node_4 (ev_t rfl)) ?_
      refine sr_rd rfl (rd_load one_sl_api_Node (ev_t rfl) (fun _ => hcell 4 _ rfl)) ?_
      refine sr_call rfl (rc_call go_syntax_printer_lines ev_f (args_cons (ev_t rfl) (args_cons (ev_t rfl) (args_nil))) rfl) (lines_ok hst hkid hD hP (by first | omega | (simp only [List.length_append, List.length_cons, List.length_nil, List.flatten_cons, List.flatten_nil, List.append_nil, tabsL, List.length_replicate]; omega)) (by omega)) ?_
      rintro v126 w126 ⟨rfl, hP, g126⟩
      refine ⟨fun h => absurd h (by decide), ?_⟩
      have g := g.trans g126
      replace B3 := B3.pf g126 rfl (by omega)
      replace B106 := B106.pf g126 rfl (by omega)
      have hk0 := hk0.pf g126 hD
      try have hkid := hkid.pf g126 hD
      refine sr_sub [] (sub_nil _) ?_
      refine sr_nil (t_end0 rfl ?_)
      refine ⟨rfl, ?_, g⟩
      rw [e]; simpa only [List.append_assoc, List.flatten_cons, List.flatten_nil, List.append_nil] using hP
    replace h9 : decide ((kidAt t 0).kind = 9) = false := by simpa using h9
    rw [h9, cond_false] at hlen e
    simp only [List.length_append, List.length_cons, List.length_nil, List.flatten_cons, List.flatten_nil, List.append_nil, tabsL, List.length_replicate] at hlen
    have hS0 := ih.t (i := 0) (by omega) ((comm_none hcm).resolve_left (of_decide_eq_false h9)) hok
    refine sc_seq fun K29 hK29 => ?_
    refine sc_text [3, 1, 2] ?_
    refine sr_pu rfl (fun _ => rd_move (ev_t rfl)) ?_
    refine sr_buildSlice [_] rfl el_sl_string ze_string (parts_cons ev_c (parts_nil)) rfl rfl ?_
    intro b109 w109 N109
    have x109_3 := N109.ne B3
    have l109 := newge N109 g.size
    have g := g.trans (PF.of_g (N109.g))
    replace B3 := B3.grow (N109.g)
    have hP := hP.grow (N109.g)
    have hk0 := hk0.grow (N109.g)
    try have hkid := hkid.grow (N109.g)
    have B109 := N109.blk
    refine sr_call rfl (rc_call go_syntax_printer_write ev_f (args_cons (ev_t rfl) (args_cons (ev_t rfl) (args_nil))) rfl) (write_ok [[99, 97, 115, 101, 32]] hP B109 (by omega) (by first | omega | (simp only [List.length_append, List.length_cons, List.length_nil, List.flatten_cons, List.flatten_nil, List.append_nil, tabsL, List.length_replicate]; omega) | (simp at hlen ⊢ <;> omega)) (by first | rfl | (simp [ht]; done) | (simpa using ht)) (Nat.le_of_ble_eq_true rfl)) ?_
    rintro v110 w110 ⟨rfl, hP, g110⟩
    refine ⟨fun h => absurd h (by decide), ?_⟩
    have g := g.trans g110
    replace B3 := B3.pf g110 rfl (by omega)
    replace B109 := B109.pf g110 rfl (by omega)
    have hk0 := hk0.pf g110 hD
    try have hkid := hkid.pf g110 hD
    refine sr_sub [(0, _, _), (3, _, _)] (sub_cons rfl (sub_cons rfl (sub_nil _))) ?_
    refine sr_nil (hK29 _ _ ?_)
    refine sc_seq fun K30 hK30 => ?_
    refine sc_text [3, 3, 0, 3, 0, 2] ?_
    refine sr_pu rfl (fun _ => rd_move (ev_t rfl)) ?_
    refine sr_pu rfl (fun _ => rd_field fo_api_Node_4 (ev_t rfl)) ?_
    refine sr_rd rfl (rd_load one_sl_api_Node (ev_t rfl) (fun _ => B3.at_ rfl)) ?_
    obtain ⟨hpe, p_114, c_114, hcell, hkid⟩ := kd_opt hk0 (i := 0) (by omega)
    refine sr_pu rfl (fun _ => rd_idxq el_sl_api_Node (ev_t rfl) ev_c (fun _ => by omega) (fun _ => hpe)) ?_
    refine sr_rd rfl (rd_loads agg_api_Node (ev_t rfl) rfl (fun _ => hcell)) ?_
    refine sr_call rfl (rc_call go_syntax_printer_stmt ev_f (args_cons (ev_t rfl) (args_cons (ev_t rfl) (args_nil))) rfl) (hS0 _ _ D n0 b _ k _ hkid hD hP (by first | omega | (simp only [List.length_append, List.length_cons, List.length_nil, List.flatten_cons, List.flatten_nil, List.append_nil, tabsL, List.length_replicate]; omega)) (by omega)) ?_
    rintro v116 w116 ⟨rfl, hP, g116⟩
    refine ⟨fun h => absurd h (by decide), ?_⟩
    have g := g.trans g116
    replace B3 := B3.pf g116 rfl (by omega)
    replace B109 := B109.pf g116 rfl (by omega)
    have hk0 := hk0.pf g116 hD
    try have hkid := hkid.pf g116 hD
    refine sr_sub [(0, _, _), (3, _, _)] (sub_cons rfl (sub_cons rfl (sub_nil _))) ?_
    refine sr_nil (hK30 _ _ ?_)
    refine sc_text [3, 1, 2] ?_
    refine sr_pu rfl (fun _ => rd_move (ev_t rfl)) ?_
    refine sr_buildSlice [_] rfl el_sl_string ze_string (parts_cons ev_c (parts_nil)) rfl rfl ?_
    intro b118 w118 N118
    have x118_3 := N118.ne B3
    have x118_109 := N118.ne B109
    have l118 := newge N118 g.size
    have g := g.trans (PF.of_g (N118.g))
    replace B3 := B3.grow (N118.g)
    replace B109 := B109.grow (N118.g)
    have hP := hP.grow (N118.g)
    have hk0 := hk0.grow (N118.g)
    try have hkid := hkid.grow (N118.g)
    have B118 := N118.blk
    refine sr_call rfl (rc_call go_syntax_printer_write ev_f (args_cons (ev_t rfl) (args_cons (ev_t rfl) (args_nil))) rfl) (write_ok [[58]] hP B118 (by omega) (by first | omega | (simp only [List.length_append, List.length_cons, List.length_nil, List.flatten_cons, List.flatten_nil, List.append_nil, tabsL, List.length_replicate]; omega) | (simp at hlen ⊢ <;> omega)) (by first | rfl | (simp [ht]; done) | (simpa using ht)) (Nat.le_of_ble_eq_true rfl)) ?_
    rintro v119 w119 ⟨rfl, hP, g119⟩
    refine ⟨fun h => absurd h (by decide), ?_⟩
    have g := g.trans g119
    replace B3 := B3.pf g119 rfl (by omega)
    replace B109 := B109.pf g119 rfl (by omega)
    replace B118 := B118.pf g119 rfl (by omega)
    have hk0 := hk0.pf g119 hD
    try have hkid := hkid.pf g119 hD
    refine sr_sub [(0, _, _), (3, _, _)] (sub_cons rfl (sub_cons rfl (sub_nil _))) ?_
    refine sr_nil (hK27 _ _ ?_)
    refine sc_text [3, 3, 0, 3, 3, 0, 2] ?_
    refine sr_pu rfl (fun _ => rd_move (ev_t rfl)) ?_
    refine sr_pu rfl (fun _ => rd_field fo_api_Node_4 (ev_t rfl)) ?_
    refine sr_rd rfl (rd_load one_sl_api_Node (ev_t rfl) (fun _ => B3.at_ rfl)) ?_
    obtain ⟨hpe, p_123, c_123, hcell, hkid⟩ := kd_opt hk0 (i := 1) (by omega)
    refine sr_pu rfl (fun _ => rd_idxq el_sl_api_Node (ev_t rfl) ev_c (fun _ => by omega) (fun _ => hpe)) ?_
    refine sr_pu rfl (fun _ => rd_field fo_api_Node_4 (ev_t rfl)) ?_
    refine sr_rd rfl (rd_load one_sl_api_Node (ev_t rfl) (fun _ => hcell 4 _ rfl)) ?_
    refine sr_call rfl (rc_call go_syntax_printer_lines ev_f (args_cons (ev_t rfl) (args_cons (ev_t rfl) (args_nil))) rfl) (lines_ok hst hkid hD hP (by first | omega | (simp only [List.length_append, List.length_cons, List.length_nil, List.flatten_cons, List.flatten_nil, List.append_nil, tabsL, List.length_replicate]; omega)) (by omega)) ?_
    rintro v126 w126 ⟨rfl, hP, g126⟩
    refine ⟨fun h => absurd h (by decide), ?_⟩
    have g := g.trans g126
    replace B3 := B3.pf g126 rfl (by omega)
    replace B109 := B109.pf g126 rfl (by omega)
    replace B118 := B118.pf g126 rfl (by omega)
    have hk0 := hk0.pf g126 hD
    try have hkid := hkid.pf g126 hD
    refine sr_sub [] (sub_nil _) ?_
    refine sr_nil (t_end0 rfl ?_)
    refine ⟨rfl, ?_, g⟩
    rw [e]; simpa only [List.append_assoc, List.flatten_cons, List.flatten_nil, List.append_nil] using hP
  (try simp only [bsimp] at h8)
  exfalso; simp only [bsimp, decide_eq_false_iff_not] at h1 h3 h5 h6 h8; omega
end Go.Rk
