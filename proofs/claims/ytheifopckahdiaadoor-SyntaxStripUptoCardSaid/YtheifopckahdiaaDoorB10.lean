/- Merged texts of one road: Prz, Pra. Conditions: each text's own. -/
import Derived.Test.YtheifopckahdiaaDoorB09
set_option linter.unusedSimpArgs false
set_option linter.unusedVariables false
namespace Go.Rk
open Go Go.RowKit
set_option linter.unusedVariables false
set_option maxHeartbeats 4000000 in
theorem expr_ok {t : Nd} (ih : PBel t) (hx : exprB t = true) (hok : okNd t) : PrOk fn_syntax_printer_expr exT t := by
  intro p c D n0 b l k w hk0 hD hP hlen hc
  have g := PF.refl n0 b w
  have hbn := hP.ge
  have hcn : count t = 1 + (t.kids.map count).sum := count_eq t
  refine ret_of_sc (m := 179) func_syntax_printer_expr rfl rfl [(0, True, _), (1, True, _)] (sub_cons rfl (sub_cons rfl (sub_nil _))) ?_
  refine sc_seq fun K1 hK1 => ?_
  refine sc_text [1] ?_
  refine sr_box rfl (ev_t rfl) rfl ?_
  intro b3 w3 N3
  have l3 := newge N3 g.size
  have g := g.trans (PF.of_g (N3.g))
  have hP := hP.grow (N3.g)
  have hk0 := hk0.grow (N3.g)
  try have hkid := hkid.grow (N3.g)
  have B3 := N3.blk
  refine sr_sub [(0, _, _), (3, _, _)] (sub_cons rfl (sub_cons rfl (sub_nil _))) ?_
  refine sr_nil (hK1 _ _ ?_)
  refine sc_seq fun K2 hK2 => ?_
  refine sc_text [3, 0] ?_
  refine sr_pu rfl (fun _ => rd_field fo_api_Node_0 (ev_t rfl)) ?_
  refine sr_rd rfl (rd_load one_int (ev_t rfl) (fun _ => B3.at_ rfl)) ?_
  refine sr_sub [(0, _, _), (3, _, _), (5, _, _)] (sub_cons rfl (sub_cons rfl (sub_cons rfl (sub_nil _)))) ?_
  refine sr_nil (hK2 _ _ ?_)
  refine sc_block ?_
  refine sc_seq fun K3 hK3 => ?_
  refine sc_text [3, 3] ?_
  refine sr_pu rfl (fun _ => rd_eq (ev_t rfl) ev_c) ?_
  refine sr_pu rfl (fun _ => rd_assign (ev_t rfl)) ?_
  refine sr_sub [(0, _, _), (3, _, _), (5, _, _), (6, _, _)] (sub_cons rfl (sub_cons rfl (sub_cons rfl (sub_cons rfl (sub_nil _))))) ?_
  refine sr_nil (hK3 _ _ ?_)
  refine sc_cond (ev_t rfl) (fun h1 => ?_) (fun h1 => ?_)
  · replace h1 := of_decide_eq_true h1
    obtain ⟨ht, hl, he0⟩ := sh28 h1 hx
    have hE0 := ih.e (by omega) he0 hok
    have hc0 := count_kidAt (t := t) (i := 0) (by omega)
    have e := exT_28 h1 hl k
    rw [e] at hlen
    try simp only [List.length_append, List.length_cons, List.length_nil, List.flatten_cons, List.flatten_nil, List.append_nil, tabsL, List.length_replicate] at hlen
    refine sc_seq fun K4 hK4 => ?_
    refine sc_text [3, 0, 2] ?_
    refine sr_pu rfl (fun _ => rd_move (ev_t rfl)) ?_
    refine sr_rd rfl (rd_loads agg_api_Node (ev_t rfl) rfl (fun _ => B3.row)) ?_
    refine sr_call rfl (rc_call go_syntax_printer_primary ev_f (args_cons (ev_t rfl) (args_cons (ev_t rfl) (args_nil))) rfl) (primary_ok (by omega) hE0 _ _ D n0 b _ k _ hk0 hD hP (by first | omega | (simp only [List.length_append, List.length_cons, List.length_nil, List.flatten_cons, List.flatten_nil, List.append_nil, tabsL, List.length_replicate]; omega)) hc) ?_
    rintro v10 w10 ⟨rfl, hP, g10⟩
    refine ⟨fun h => absurd h (by decide), ?_⟩
    have g := g.trans g10
    replace B3 := B3.pf g10 rfl (by omega)
    have hk0 := hk0.pf g10 hD
    refine sr_sub [(0, _, _), (3, _, _)] (sub_cons rfl (sub_cons rfl (sub_nil _))) ?_
    refine sr_nil (hK4 _ _ ?_)
    refine sc_text [3, 3, 0, 1, 2] ?_
    refine sr_pu rfl (fun _ => rd_move (ev_t rfl)) ?_
    refine sr_pu rfl (fun _ => rd_field fo_api_Node_1 (ev_t rfl)) ?_
    refine sr_rd rfl (rd_load one_string (ev_t rfl) (fun _ => B3.at_ rfl)) ?_
    refine sr_buildSlice [_, _] rfl el_sl_string ze_string (parts_cons ev_c (parts_cons (ev_t rfl) (parts_nil))) rfl rfl ?_
    intro b14 w14 N14
    have x14_3 := N14.ne B3
    have l14 := newge N14 g.size
    have g := g.trans (PF.of_g (N14.g))
    replace B3 := B3.grow (N14.g)
    have hP := hP.grow (N14.g)
    have hk0 := hk0.grow (N14.g)
    try have hkid := hkid.grow (N14.g)
    have B14 := N14.blk
    refine sr_call rfl (rc_call go_syntax_printer_write ev_f (args_cons (ev_t rfl) (args_cons (ev_t rfl) (args_nil))) rfl) (write_ok [[46], t.text] hP B14 (by omega) (by first | omega | (simp only [List.length_append, List.length_cons, List.length_nil, List.flatten_cons, List.flatten_nil, List.append_nil, tabsL, List.length_replicate]; omega) | (simp at hlen ⊢ <;> omega)) (by first | rfl | (simp [ht]; done) | (simpa using ht)) (Nat.le_of_ble_eq_true rfl)) ?_
    rintro v15 w15 ⟨rfl, hP, g15⟩
    refine ⟨fun h => absurd h (by decide), ?_⟩
    have g := g.trans g15
    replace B3 := B3.pf g15 rfl (by omega)
    replace B14 := B14.pf g15 rfl (by omega)
    have hk0 := hk0.pf g15 hD
    refine sr_sub [] (sub_nil _) ?_
    refine sr_nil (t_end0 rfl ?_)
    refine ⟨rfl, ?_, g⟩
    rw [e]; simpa only [List.append_assoc, List.flatten_cons, List.flatten_nil, List.append_nil] using hP
  (try simp only [bsimp] at h1)
  refine sc_seq fun K5 hK5 => ?_
  refine sc_text [3, 3] ?_
  refine sr_pu rfl (fun _ => rd_eq (ev_t rfl) ev_c) ?_
  refine sr_pu rfl (fun _ => rd_assign (ev_t rfl)) ?_
  refine sr_sub [(0, _, _), (3, _, _), (5, _, _), (16, _, _)] (sub_cons rfl (sub_cons rfl (sub_cons rfl (sub_cons rfl (sub_nil _))))) ?_
  refine sr_nil (hK5 _ _ ?_)
  refine sc_cond (ev_t rfl) (fun h2 => ?_) (fun h2 => ?_)
  · replace h2 := of_decide_eq_true h2
    obtain ⟨hl, he0, he1⟩ := sh29 h2 hx
    have hE0 := ih.e (by omega) he0 hok
    have hE1 := ih.e (by omega) he1 hok
    have hc0 := count_kidAt (t := t) (i := 0) (by omega)
    have hc1 := count_kidAt (t := t) (i := 1) (by omega)
    have e := exT_29 h2 hl k
    rw [e] at hlen
    try simp only [List.length_append, List.length_cons, List.length_nil, List.flatten_cons, List.flatten_nil, List.append_nil, tabsL, List.length_replicate] at hlen
    refine sc_seq fun K6 hK6 => ?_
    refine sc_text [3, 0, 2] ?_
    refine sr_pu rfl (fun _ => rd_move (ev_t rfl)) ?_
    refine sr_rd rfl (rd_loads agg_api_Node (ev_t rfl) rfl (fun _ => B3.row)) ?_
    refine sr_call rfl (rc_call go_syntax_printer_primary ev_f (args_cons (ev_t rfl) (args_cons (ev_t rfl) (args_nil))) rfl) (primary_ok (by omega) hE0 _ _ D n0 b _ k _ hk0 hD hP (by first | omega | (simp only [List.length_append, List.length_cons, List.length_nil, List.flatten_cons, List.flatten_nil, List.append_nil, tabsL, List.length_replicate]; omega)) hc) ?_
    rintro v20 w20 ⟨rfl, hP, g20⟩
    refine ⟨fun h => absurd h (by decide), ?_⟩
    have g := g.trans g20
    replace B3 := B3.pf g20 rfl (by omega)
    have hk0 := hk0.pf g20 hD
    refine sr_sub [(0, _, _), (3, _, _)] (sub_cons rfl (sub_cons rfl (sub_nil _))) ?_
    refine sr_nil (hK6 _ _ ?_)
    refine sc_seq fun K7 hK7 => ?_
    refine sc_text [3, 1, 2] ?_
    refine sr_pu rfl (fun _ => rd_move (ev_t rfl)) ?_
    refine sr_buildSlice [_] rfl el_sl_string ze_string (parts_cons ev_c (parts_nil)) rfl rfl ?_
    intro b22 w22 N22
    have x22_3 := N22.ne B3
    have l22 := newge N22 g.size
    have g := g.trans (PF.of_g (N22.g))
    replace B3 := B3.grow (N22.g)
    have hP := hP.grow (N22.g)
    have hk0 := hk0.grow (N22.g)
    try have hkid := hkid.grow (N22.g)
    have B22 := N22.blk
    refine sr_call rfl (rc_call go_syntax_printer_write ev_f (args_cons (ev_t rfl) (args_cons (ev_t rfl) (args_nil))) rfl) (write_ok [[91]] hP B22 (by omega) (by first | omega | (simp only [List.length_append, List.length_cons, List.length_nil, List.flatten_cons, List.flatten_nil, List.append_nil, tabsL, List.length_replicate]; omega) | (simp at hlen ⊢ <;> omega)) (by first | rfl | (simp [ht]; done) | (simpa using ht)) (Nat.le_of_ble_eq_true rfl)) ?_
    rintro v23 w23 ⟨rfl, hP, g23⟩
    refine ⟨fun h => absurd h (by decide), ?_⟩
    have g := g.trans g23
    replace B3 := B3.pf g23 rfl (by omega)
    replace B22 := B22.pf g23 rfl (by omega)
    have hk0 := hk0.pf g23 hD
    refine sr_sub [(0, _, _), (3, _, _)] (sub_cons rfl (sub_cons rfl (sub_nil _))) ?_
    refine sr_nil (hK7 _ _ ?_)
    refine sc_seq fun K8 hK8 => ?_
    refine sc_text [3, 3, 0, 3, 0, 2] ?_
    refine sr_pu rfl (fun _ => rd_move (ev_t rfl)) ?_
    refine sr_pu rfl (fun _ => rd_field fo_api_Node_4 (ev_t rfl)) ?_
    refine sr_rd rfl (rd_load one_sl_api_Node (ev_t rfl) (fun _ => B3.at_ rfl)) ?_
    obtain ⟨hpe, p_27, c_27, hcell, hkid⟩ := kd_opt hk0 (i := 1) (by omega)
    refine sr_pu rfl (fun _ => rd_idxq el_sl_api_Node (ev_t rfl) ev_c (fun _ => by omega) (fun _ => hpe)) ?_
    refine sr_rd rfl (rd_loads agg_api_Node (ev_t rfl) rfl (fun _ => hcell)) ?_
    refine sr_call rfl (rc_call go_syntax_printer_expr ev_f (args_cons (ev_t rfl) (args_cons (ev_t rfl) (args_nil))) rfl) (hE1 _ _ D n0 b _ k _ hkid hD hP (by first | omega | (simp only [List.length_append, List.length_cons, List.length_nil, List.flatten_cons, List.flatten_nil, List.append_nil, tabsL, List.length_replicate]; omega)) (by omega)) ?_
    rintro v29 w29 ⟨rfl, hP, g29⟩
    refine ⟨fun h => absurd h (by decide), ?_⟩
    have g := g.trans g29
    replace B3 := B3.pf g29 rfl (by omega)
    replace B22 := B22.pf g29 rfl (by omega)
    have hk0 := hk0.pf g29 hD
    refine sr_sub [(0, _, _)] (sub_cons rfl (sub_nil _)) ?_
    refine sr_nil (hK8 _ _ ?_)
    refine sc_text [3, 1, 2] ?_
    refine sr_pu rfl (fun _ => rd_move (ev_t rfl)) ?_
    refine sr_buildSlice [_] rfl el_sl_string ze_string (parts_cons ev_c (parts_nil)) rfl rfl ?_
    intro b31 w31 N31
    have x31_3 := N31.ne B3
    have x31_22 := N31.ne B22
    have l31 := newge N31 g.size
    have g := g.trans (PF.of_g (N31.g))
    replace B3 := B3.grow (N31.g)
    replace B22 := B22.grow (N31.g)
    have hP := hP.grow (N31.g)
    have hk0 := hk0.grow (N31.g)
    try have hkid := hkid.grow (N31.g)
    have B31 := N31.blk
    refine sr_call rfl (rc_call go_syntax_printer_write ev_f (args_cons (ev_t rfl) (args_cons (ev_t rfl) (args_nil))) rfl) (write_ok [[93]] hP B31 (by omega) (by first | omega | (simp only [List.length_append, List.length_cons, List.length_nil, List.flatten_cons, List.flatten_nil, List.append_nil, tabsL, List.length_replicate]; omega) | (simp at hlen ⊢ <;> omega)) (by first | rfl | (simp [ht]; done) | (simpa using ht)) (Nat.le_of_ble_eq_true rfl)) ?_
    rintro v32 w32 ⟨rfl, hP, g32⟩
    refine ⟨fun h => absurd h (by decide), ?_⟩
    have g := g.trans g32
    replace B3 := B3.pf g32 rfl (by omega)
    replace B22 := B22.pf g32 rfl (by omega)
    replace B31 := B31.pf g32 rfl (by omega)
    have hk0 := hk0.pf g32 hD
    refine sr_sub [] (sub_nil _) ?_
    refine sr_nil (t_end0 rfl ?_)
    refine ⟨rfl, ?_, g⟩
    rw [e]; simpa only [List.append_assoc, List.flatten_cons, List.flatten_nil, List.append_nil] using hP
  (try simp only [bsimp] at h2)
  refine sc_seq fun K9 hK9 => ?_
  refine sc_text [3, 3] ?_
  refine sr_pu rfl (fun _ => rd_eq (ev_t rfl) ev_c) ?_
  refine sr_pu rfl (fun _ => rd_assign (ev_t rfl)) ?_
  refine sr_sub [(0, _, _), (3, _, _), (5, _, _), (33, _, _)] (sub_cons rfl (sub_cons rfl (sub_cons rfl (sub_cons rfl (sub_nil _))))) ?_
  refine sr_nil (hK9 _ _ ?_)
  refine sc_cond (ev_t rfl) (fun h3 => ?_) (fun h3 => ?_)
  · replace h3 := of_decide_eq_true h3
    obtain ⟨hl, hes⟩ := sh30 h3 hx
    have hE0 := ih.e (i := 0) (by omega) (all_kidAt hes (by omega)) hok
    have hEs := ih.es hes hok
    have hc0 := count_kidAt (t := t) (i := 0) (by omega)
    have hsd : ((t.kids.drop 1).map count).sum ≤ (t.kids.map count).sum := by rw [← List.take_append_drop 1 (t.kids.map count), List.sum_append, List.map_drop]; omega
    have e := exT_30 h3 hl k
    rw [e] at hlen
    try simp only [List.length_append, List.length_cons, List.length_nil, List.flatten_cons, List.flatten_nil, List.append_nil, tabsL, List.length_replicate] at hlen
    refine sc_seq fun K10 hK10 => ?_
    refine sc_text [3, 0, 2] ?_
    refine sr_pu rfl (fun _ => rd_move (ev_t rfl)) ?_
    refine sr_rd rfl (rd_loads agg_api_Node (ev_t rfl) rfl (fun _ => B3.row)) ?_
    refine sr_call rfl (rc_call go_syntax_printer_primary ev_f (args_cons (ev_t rfl) (args_cons (ev_t rfl) (args_nil))) rfl) (primary_ok (by omega) hE0 _ _ D n0 b _ k _ hk0 hD hP (by first | omega | (simp only [List.length_append, List.length_cons, List.length_nil, List.flatten_cons, List.flatten_nil, List.append_nil, tabsL, List.length_replicate]; omega)) hc) ?_
    rintro v37 w37 ⟨rfl, hP, g37⟩
    refine ⟨fun h => absurd h (by decide), ?_⟩
    have g := g.trans g37
    replace B3 := B3.pf g37 rfl (by omega)
    have hk0 := hk0.pf g37 hD
    refine sr_sub [(0, _, _), (3, _, _)] (sub_cons rfl (sub_cons rfl (sub_nil _))) ?_
    refine sr_nil (hK10 _ _ ?_)
    refine sc_seq fun K11 hK11 => ?_
    refine sc_text [3, 1, 2] ?_
    refine sr_pu rfl (fun _ => rd_move (ev_t rfl)) ?_
    refine sr_buildSlice [_] rfl el_sl_string ze_string (parts_cons ev_c (parts_nil)) rfl rfl ?_
    intro b39 w39 N39
    have x39_3 := N39.ne B3
    have l39 := newge N39 g.size
    have g := g.trans (PF.of_g (N39.g))
    replace B3 := B3.grow (N39.g)
    have hP := hP.grow (N39.g)
    have hk0 := hk0.grow (N39.g)
    try have hkid := hkid.grow (N39.g)
    have B39 := N39.blk
    refine sr_call rfl (rc_call go_syntax_printer_write ev_f (args_cons (ev_t rfl) (args_cons (ev_t rfl) (args_nil))) rfl) (write_ok [[40]] hP B39 (by omega) (by first | omega | (simp only [List.length_append, List.length_cons, List.length_nil, List.flatten_cons, List.flatten_nil, List.append_nil, tabsL, List.length_replicate]; omega) | (simp at hlen ⊢ <;> omega)) (by first | rfl | (simp [ht]; done) | (simpa using ht)) (Nat.le_of_ble_eq_true rfl)) ?_
    rintro v40 w40 ⟨rfl, hP, g40⟩
    refine ⟨fun h => absurd h (by decide), ?_⟩
    have g := g.trans g40
    replace B3 := B3.pf g40 rfl (by omega)
    replace B39 := B39.pf g40 rfl (by omega)
    have hk0 := hk0.pf g40 hD
    refine sr_sub [(0, _, _), (3, _, _)] (sub_cons rfl (sub_cons rfl (sub_nil _))) ?_
    refine sr_nil (hK11 _ _ ?_)
    refine sc_seq fun K12 hK12 => ?_
    refine sc_text [3, 3, 0, 3, 2] ?_
    obtain ⟨b44, o44, rfl, hkd⟩ := kd_drop hk0 hl
    refine sr_pu rfl (fun _ => rd_move (ev_t rfl)) ?_
    refine sr_pu rfl (fun _ => rd_field fo_api_Node_4 (ev_t rfl)) ?_
    refine sr_rd rfl (rd_load one_sl_api_Node (ev_t rfl) (fun _ => B3.at_ rfl)) ?_
    refine sr_pu rfl (fun _ => rd_sl_from el_sl_api_Node (ev_t rfl) ev_c (fun _ => by omega)) ?_
    refine sr_call rfl (rc_call go_syntax_printer_list ev_f (args_cons (ev_t rfl) (args_cons (ev_t rfl) (args_nil))) rfl) (list_ok' (by rw [List.length_drop]; rfl) (fun x hm => hEs x (List.mem_of_mem_drop hm)) hkd hD hP (by first | omega | (simp only [List.length_append, List.length_cons, List.length_nil, List.flatten_cons, List.flatten_nil, List.append_nil, tabsL, List.length_replicate]; omega)) (by omega)) ?_
    rintro v45 w45 ⟨rfl, hP, g45⟩
    refine ⟨fun h => absurd h (by decide), ?_⟩
    have g := g.trans g45
    replace B3 := B3.pf g45 rfl (by omega)
    replace B39 := B39.pf g45 rfl (by omega)
    have hk0 := hk0.pf g45 hD
    refine sr_sub [(0, _, _)] (sub_cons rfl (sub_nil _)) ?_
    refine sr_nil (hK12 _ _ ?_)
    refine sc_text [3, 1, 2] ?_
    refine sr_pu rfl (fun _ => rd_move (ev_t rfl)) ?_
    refine sr_buildSlice [_] rfl el_sl_string ze_string (parts_cons ev_c (parts_nil)) rfl rfl ?_
    intro b47 w47 N47
    have x47_3 := N47.ne B3
    have x47_39 := N47.ne B39
    have l47 := newge N47 g.size
    have g := g.trans (PF.of_g (N47.g))
    replace B3 := B3.grow (N47.g)
    replace B39 := B39.grow (N47.g)
    have hP := hP.grow (N47.g)
    have hk0 := hk0.grow (N47.g)
    try have hkid := hkid.grow (N47.g)
    have B47 := N47.blk
    refine sr_call rfl (rc_call go_syntax_printer_write ev_f (args_cons (ev_t rfl) (args_cons (ev_t rfl) (args_nil))) rfl) (write_ok [[41]] hP B47 (by omega) (by first | omega | (simp only [List.length_append, List.length_cons, List.length_nil, List.flatten_cons, List.flatten_nil, List.append_nil, tabsL, List.length_replicate]; omega) | (simp at hlen ⊢ <;> omega)) (by first | rfl | (simp [ht]; done) | (simpa using ht)) (Nat.le_of_ble_eq_true rfl)) ?_
    rintro v48 w48 ⟨rfl, hP, g48⟩
    refine ⟨fun h => absurd h (by decide), ?_⟩
    have g := g.trans g48
    replace B3 := B3.pf g48 rfl (by omega)
    replace B39 := B39.pf g48 rfl (by omega)
    replace B47 := B47.pf g48 rfl (by omega)
    have hk0 := hk0.pf g48 hD
    refine sr_sub [] (sub_nil _) ?_
    refine sr_nil (t_end0 rfl ?_)
    refine ⟨rfl, ?_, g⟩
    rw [e]; simpa only [List.append_assoc, List.flatten_cons, List.flatten_nil, List.append_nil] using hP
  (try simp only [bsimp] at h3)
  refine sc_seq fun K13 hK13 => ?_
  refine sc_text [3, 3] ?_
  refine sr_pu rfl (fun _ => rd_eq (ev_t rfl) ev_c) ?_
  refine sr_pu rfl (fun _ => rd_assign (ev_t rfl)) ?_
  refine sr_sub [(0, _, _), (3, _, _), (5, _, _), (49, _, _)] (sub_cons rfl (sub_cons rfl (sub_cons rfl (sub_cons rfl (sub_nil _))))) ?_
  refine sr_nil (hK13 _ _ ?_)
  refine sc_cond (ev_t rfl) (fun h4 => ?_) (fun h4 => ?_)
  · replace h4 := of_decide_eq_true h4
    obtain ⟨ht, hl, he0⟩ := sh31 h4 hx
    have hE0 := ih.e (by omega) he0 hok
    have hc0 := count_kidAt (t := t) (i := 0) (by omega)
    have e := exT_31 h4 hl k
    rw [e] at hlen
    try simp only [List.length_append, List.length_cons, List.length_nil, List.flatten_cons, List.flatten_nil, List.append_nil, tabsL, List.length_replicate] at hlen
    refine sc_seq fun K14 hK14 => ?_
    refine sc_text [3, 3, 0, 1, 2] ?_
    refine sr_pu rfl (fun _ => rd_move (ev_t rfl)) ?_
    refine sr_pu rfl (fun _ => rd_field fo_api_Node_1 (ev_t rfl)) ?_
    refine sr_rd rfl (rd_load one_string (ev_t rfl) (fun _ => B3.at_ rfl)) ?_
    refine sr_buildSlice [_] rfl el_sl_string ze_string (parts_cons (ev_t rfl) (parts_nil)) rfl rfl ?_
    intro b54 w54 N54
    have x54_3 := N54.ne B3
    have l54 := newge N54 g.size
    have g := g.trans (PF.of_g (N54.g))
    replace B3 := B3.grow (N54.g)
    have hP := hP.grow (N54.g)
    have hk0 := hk0.grow (N54.g)
    try have hkid := hkid.grow (N54.g)
    have B54 := N54.blk
    refine sr_call rfl (rc_call go_syntax_printer_write ev_f (args_cons (ev_t rfl) (args_cons (ev_t rfl) (args_nil))) rfl) (write_ok [t.text] hP B54 (by omega) (by first | omega | (simp only [List.length_append, List.length_cons, List.length_nil, List.flatten_cons, List.flatten_nil, List.append_nil, tabsL, List.length_replicate]; omega) | (simp at hlen ⊢ <;> omega)) (by first | rfl | (simp [ht]; done) | (simpa using ht)) (Nat.le_of_ble_eq_true rfl)) ?_
    rintro v55 w55 ⟨rfl, hP, g55⟩
    refine ⟨fun h => absurd h (by decide), ?_⟩
    have g := g.trans g55
    replace B3 := B3.pf g55 rfl (by omega)
    replace B54 := B54.pf g55 rfl (by omega)
    have hk0 := hk0.pf g55 hD
    refine sr_sub [(0, _, _), (3, _, _)] (sub_cons rfl (sub_cons rfl (sub_nil _))) ?_
    refine sr_nil (hK14 _ _ ?_)
    refine sc_text [3, 3, 0, 3, 0, 1, 2] ?_
    refine sr_pu rfl (fun _ => rd_move (ev_t rfl)) ?_
    refine sr_pu rfl (fun _ => rd_field fo_api_Node_4 (ev_t rfl)) ?_
    refine sr_rd rfl (rd_load one_sl_api_Node (ev_t rfl) (fun _ => B3.at_ rfl)) ?_
    obtain ⟨hpe, p_59, c_59, hcell, hkid⟩ := kd_opt hk0 (i := 0) (by omega)
    refine sr_pu rfl (fun _ => rd_idxq el_sl_api_Node (ev_t rfl) ev_c (fun _ => by omega) (fun _ => hpe)) ?_
    refine sr_rd rfl (rd_loads agg_api_Node (ev_t rfl) rfl (fun _ => hcell)) ?_
    refine sr_buildSlice [_] rfl el_sl_int ze_int (parts_cons ev_c (parts_nil)) rfl rfl ?_
    intro b61 w61 N61
    have x61_3 := N61.ne B3
    have x61_54 := N61.ne B54
    have l61 := newge N61 g.size
    have g := g.trans (PF.of_g (N61.g))
    replace B3 := B3.grow (N61.g)
    replace B54 := B54.grow (N61.g)
    have hP := hP.grow (N61.g)
    have hk0 := hk0.grow (N61.g)
    try have hkid := hkid.grow (N61.g)
    have B61 := N61.blk
    refine sr_call rfl (rc_call go_syntax_printer_inner ev_f (args_cons (ev_t rfl) (args_cons (ev_t rfl) (args_cons (ev_t rfl) (args_nil)))) rfl) (inner_ok hE0 [32] _ _ hkid hD hP B61 (by decide) (by first | omega | (simp only [List.length_append, List.length_cons, List.length_nil, List.flatten_cons, List.flatten_nil, List.append_nil, tabsL, List.length_replicate]; omega)) (by omega)) ?_
    rintro v62 w62 ⟨rfl, hP, g62⟩
    refine ⟨fun h => absurd h (by decide), ?_⟩
    have g := g.trans g62
    replace B3 := B3.pf g62 rfl (by omega)
    replace B54 := B54.pf g62 rfl (by omega)
    replace B61 := B61.pf g62 rfl (by omega)
    have hk0 := hk0.pf g62 hD
    refine sr_sub [] (sub_nil _) ?_
    refine sr_nil (t_end0 rfl ?_)
    refine ⟨rfl, ?_, g⟩
    rw [e]; simpa only [List.append_assoc, List.flatten_cons, List.flatten_nil, List.append_nil] using hP
  (try simp only [bsimp] at h4)
  refine sc_seq fun K15 hK15 => ?_
  refine sc_text [3, 3] ?_
  refine sr_pu rfl (fun _ => rd_eq (ev_t rfl) ev_c) ?_
  refine sr_pu rfl (fun _ => rd_assign (ev_t rfl)) ?_
  refine sr_sub [(0, _, _), (3, _, _), (5, _, _), (63, _, _)] (sub_cons rfl (sub_cons rfl (sub_cons rfl (sub_cons rfl (sub_nil _))))) ?_
  refine sr_nil (hK15 _ _ ?_)
  refine sc_cond (ev_t rfl) (fun h5 => ?_) (fun h5 => ?_)
  · replace h5 := of_decide_eq_true h5
    obtain ⟨hl, he0⟩ := sh33 h5 hx
    have hE0 := ih.e (by omega) he0 hok
    have hc0 := count_kidAt (t := t) (i := 0) (by omega)
    have e := exT_33 h5 hl k
    rw [e] at hlen
    try simp only [List.length_append, List.length_cons, List.length_nil, List.flatten_cons, List.flatten_nil, List.append_nil, tabsL, List.length_replicate] at hlen
    refine sc_seq fun K16 hK16 => ?_
    refine sc_text [3, 1, 2] ?_
    refine sr_pu rfl (fun _ => rd_move (ev_t rfl)) ?_
    refine sr_buildSlice [_] rfl el_sl_string ze_string (parts_cons ev_c (parts_nil)) rfl rfl ?_
    intro b66 w66 N66
    have x66_3 := N66.ne B3
    have l66 := newge N66 g.size
    have g := g.trans (PF.of_g (N66.g))
    replace B3 := B3.grow (N66.g)
    have hP := hP.grow (N66.g)
    have hk0 := hk0.grow (N66.g)
    try have hkid := hkid.grow (N66.g)
    have B66 := N66.blk
    refine sr_call rfl (rc_call go_syntax_printer_write ev_f (args_cons (ev_t rfl) (args_cons (ev_t rfl) (args_nil))) rfl) (write_ok [[60, 45]] hP B66 (by omega) (by first | omega | (simp only [List.length_append, List.length_cons, List.length_nil, List.flatten_cons, List.flatten_nil, List.append_nil, tabsL, List.length_replicate]; omega) | (simp at hlen ⊢ <;> omega)) (by first | rfl | (simp [ht]; done) | (simpa using ht)) (Nat.le_of_ble_eq_true rfl)) ?_
    rintro v67 w67 ⟨rfl, hP, g67⟩
    refine ⟨fun h => absurd h (by decide), ?_⟩
    have g := g.trans g67
    replace B3 := B3.pf g67 rfl (by omega)
    replace B66 := B66.pf g67 rfl (by omega)
    have hk0 := hk0.pf g67 hD
    refine sr_sub [(0, _, _), (3, _, _)] (sub_cons rfl (sub_cons rfl (sub_nil _))) ?_
    refine sr_nil (hK16 _ _ ?_)
    refine sc_text [3, 3, 0, 3, 0, 1, 2] ?_
    refine sr_pu rfl (fun _ => rd_move (ev_t rfl)) ?_
    refine sr_pu rfl (fun _ => rd_field fo_api_Node_4 (ev_t rfl)) ?_
    refine sr_rd rfl (rd_load one_sl_api_Node (ev_t rfl) (fun _ => B3.at_ rfl)) ?_
    obtain ⟨hpe, p_71, c_71, hcell, hkid⟩ := kd_opt hk0 (i := 0) (by omega)
    refine sr_pu rfl (fun _ => rd_idxq el_sl_api_Node (ev_t rfl) ev_c (fun _ => by omega) (fun _ => hpe)) ?_
    refine sr_rd rfl (rd_loads agg_api_Node (ev_t rfl) rfl (fun _ => hcell)) ?_
    refine sr_buildSlice [_] rfl el_sl_int ze_int (parts_cons ev_c (parts_nil)) rfl rfl ?_
    intro b73 w73 N73
    have x73_3 := N73.ne B3
    have x73_66 := N73.ne B66
    have l73 := newge N73 g.size
    have g := g.trans (PF.of_g (N73.g))
    replace B3 := B3.grow (N73.g)
    replace B66 := B66.grow (N73.g)
    have hP := hP.grow (N73.g)
    have hk0 := hk0.grow (N73.g)
    try have hkid := hkid.grow (N73.g)
    have B73 := N73.blk
    refine sr_call rfl (rc_call go_syntax_printer_inner ev_f (args_cons (ev_t rfl) (args_cons (ev_t rfl) (args_cons (ev_t rfl) (args_nil)))) rfl) (inner_ok hE0 [32] _ _ hkid hD hP B73 (by decide) (by first | omega | (simp only [List.length_append, List.length_cons, List.length_nil, List.flatten_cons, List.flatten_nil, List.append_nil, tabsL, List.length_replicate]; omega)) (by omega)) ?_
    rintro v74 w74 ⟨rfl, hP, g74⟩
    refine ⟨fun h => absurd h (by decide), ?_⟩
    have g := g.trans g74
    replace B3 := B3.pf g74 rfl (by omega)
    replace B66 := B66.pf g74 rfl (by omega)
    replace B73 := B73.pf g74 rfl (by omega)
    have hk0 := hk0.pf g74 hD
    refine sr_sub [] (sub_nil _) ?_
    refine sr_nil (t_end0 rfl ?_)
    refine ⟨rfl, ?_, g⟩
    rw [e]; simpa only [List.append_assoc, List.flatten_cons, List.flatten_nil, List.append_nil] using hP
  (try simp only [bsimp] at h5)
  refine sc_seq fun K17 hK17 => ?_
  refine sc_text [3, 3] ?_
  refine sr_pu rfl (fun _ => rd_eq (ev_t rfl) ev_c) ?_
  refine sr_pu rfl (fun _ => rd_assign (ev_t rfl)) ?_
  refine sr_sub [(0, _, _), (3, _, _), (5, _, _), (75, _, _)] (sub_cons rfl (sub_cons rfl (sub_cons rfl (sub_cons rfl (sub_nil _))))) ?_
  refine sr_nil (hK17 _ _ ?_)
  refine sc_cond (ev_t rfl) (fun h6 => ?_) (fun h6 => ?_)
  · replace h6 := of_decide_eq_true h6
    obtain ⟨ht, hl, he0, he1⟩ := sh32 h6 hx
    have hE0 := ih.e (by omega) he0 hok
    have hE1 := ih.e (by omega) he1 hok
    have hc0 := count_kidAt (t := t) (i := 0) (by omega)
    have hc1 := count_kidAt (t := t) (i := 1) (by omega)
    have e := exT_32 h6 hl k
    rw [e] at hlen
    try simp only [List.length_append, List.length_cons, List.length_nil, List.flatten_cons, List.flatten_nil, List.append_nil, tabsL, List.length_replicate] at hlen
    refine sc_seq fun K18 hK18 => ?_
    refine sc_text [3, 3, 0, 3, 0, 1, 2] ?_
    refine sr_pu rfl (fun _ => rd_move (ev_t rfl)) ?_
    refine sr_pu rfl (fun _ => rd_field fo_api_Node_4 (ev_t rfl)) ?_
    refine sr_rd rfl (rd_load one_sl_api_Node (ev_t rfl) (fun _ => B3.at_ rfl)) ?_
    obtain ⟨hpe, p_80, c_80, hcell, hkid⟩ := kd_opt hk0 (i := 0) (by omega)
    refine sr_pu rfl (fun _ => rd_idxq el_sl_api_Node (ev_t rfl) ev_c (fun _ => by omega) (fun _ => hpe)) ?_
    refine sr_rd rfl (rd_loads agg_api_Node (ev_t rfl) rfl (fun _ => hcell)) ?_
    refine sr_buildSlice [_] rfl el_sl_int ze_int (parts_cons ev_c (parts_nil)) rfl rfl ?_
    intro b82 w82 N82
    have x82_3 := N82.ne B3
    have l82 := newge N82 g.size
    have g := g.trans (PF.of_g (N82.g))
    replace B3 := B3.grow (N82.g)
    have hP := hP.grow (N82.g)
    have hk0 := hk0.grow (N82.g)
    try have hkid := hkid.grow (N82.g)
    have B82 := N82.blk
    refine sr_call rfl (rc_call go_syntax_printer_inner ev_f (args_cons (ev_t rfl) (args_cons (ev_t rfl) (args_cons (ev_t rfl) (args_nil)))) rfl) (inner_ok hE0 [32] _ _ hkid hD hP B82 (by decide) (by first | omega | (simp only [List.length_append, List.length_cons, List.length_nil, List.flatten_cons, List.flatten_nil, List.append_nil, tabsL, List.length_replicate]; omega)) (by omega)) ?_
    rintro v83 w83 ⟨rfl, hP, g83⟩
    refine ⟨fun h => absurd h (by decide), ?_⟩
    have g := g.trans g83
    replace B3 := B3.pf g83 rfl (by omega)
    replace B82 := B82.pf g83 rfl (by omega)
    have hk0 := hk0.pf g83 hD
    refine sr_sub [(0, _, _), (3, _, _)] (sub_cons rfl (sub_cons rfl (sub_nil _))) ?_
    refine sr_nil (hK18 _ _ ?_)
    refine sc_seq fun K19 hK19 => ?_
    refine sc_text [3, 3, 0, 1, 2] ?_
    refine sr_pu rfl (fun _ => rd_move (ev_t rfl)) ?_
    refine sr_pu rfl (fun _ => rd_field fo_api_Node_1 (ev_t rfl)) ?_
    refine sr_rd rfl (rd_load one_string (ev_t rfl) (fun _ => B3.at_ rfl)) ?_
    refine sr_buildSlice [_, _, _] rfl el_sl_string ze_string (parts_cons ev_c (parts_cons (ev_t rfl) (parts_cons ev_c (parts_nil)))) rfl rfl ?_
    intro b87 w87 N87
    have x87_3 := N87.ne B3
    have x87_82 := N87.ne B82
    have l87 := newge N87 g.size
    have g := g.trans (PF.of_g (N87.g))
    replace B3 := B3.grow (N87.g)
    replace B82 := B82.grow (N87.g)
    have hP := hP.grow (N87.g)
    have hk0 := hk0.grow (N87.g)
    try have hkid := hkid.grow (N87.g)
    have B87 := N87.blk
    refine sr_call rfl (rc_call go_syntax_printer_write ev_f (args_cons (ev_t rfl) (args_cons (ev_t rfl) (args_nil))) rfl) (write_ok [[32], t.text, [32]] hP B87 (by omega) (by first | omega | (simp only [List.length_append, List.length_cons, List.length_nil, List.flatten_cons, List.flatten_nil, List.append_nil, tabsL, List.length_replicate]; omega) | (simp at hlen ⊢ <;> omega)) (by first | rfl | (simp [ht]; done) | (simpa using ht)) (Nat.le_of_ble_eq_true rfl)) ?_
    rintro v88 w88 ⟨rfl, hP, g88⟩
    refine ⟨fun h => absurd h (by decide), ?_⟩
    have g := g.trans g88
    replace B3 := B3.pf g88 rfl (by omega)
    replace B82 := B82.pf g88 rfl (by omega)
    replace B87 := B87.pf g88 rfl (by omega)
    have hk0 := hk0.pf g88 hD
    refine sr_sub [(0, _, _), (3, _, _)] (sub_cons rfl (sub_cons rfl (sub_nil _))) ?_
    refine sr_nil (hK19 _ _ ?_)
    refine sc_text [3, 3, 0, 3, 0, 1, 2] ?_
    refine sr_pu rfl (fun _ => rd_move (ev_t rfl)) ?_
    refine sr_pu rfl (fun _ => rd_field fo_api_Node_4 (ev_t rfl)) ?_
    refine sr_rd rfl (rd_load one_sl_api_Node (ev_t rfl) (fun _ => B3.at_ rfl)) ?_
    obtain ⟨hpe, p_92, c_92, hcell, hkid⟩ := kd_opt hk0 (i := 1) (by omega)
    refine sr_pu rfl (fun _ => rd_idxq el_sl_api_Node (ev_t rfl) ev_c (fun _ => by omega) (fun _ => hpe)) ?_
    refine sr_rd rfl (rd_loads agg_api_Node (ev_t rfl) rfl (fun _ => hcell)) ?_
    refine sr_buildSlice [_] rfl el_sl_int ze_int (parts_cons ev_c (parts_nil)) rfl rfl ?_
    intro b94 w94 N94
    have x94_3 := N94.ne B3
    have x94_82 := N94.ne B82
    have x94_87 := N94.ne B87
    have l94 := newge N94 g.size
    have g := g.trans (PF.of_g (N94.g))
    replace B3 := B3.grow (N94.g)
    replace B82 := B82.grow (N94.g)
    replace B87 := B87.grow (N94.g)
    have hP := hP.grow (N94.g)
    have hk0 := hk0.grow (N94.g)
    try have hkid := hkid.grow (N94.g)
    have B94 := N94.blk
    refine sr_call rfl (rc_call go_syntax_printer_inner ev_f (args_cons (ev_t rfl) (args_cons (ev_t rfl) (args_cons (ev_t rfl) (args_nil)))) rfl) (inner_ok hE1 [32] _ _ hkid hD hP B94 (by decide) (by first | omega | (simp only [List.length_append, List.length_cons, List.length_nil, List.flatten_cons, List.flatten_nil, List.append_nil, tabsL, List.length_replicate]; omega)) (by omega)) ?_
    rintro v95 w95 ⟨rfl, hP, g95⟩
    refine ⟨fun h => absurd h (by decide), ?_⟩
    have g := g.trans g95
    replace B3 := B3.pf g95 rfl (by omega)
    replace B82 := B82.pf g95 rfl (by omega)
    replace B87 := B87.pf g95 rfl (by omega)
    replace B94 := B94.pf g95 rfl (by omega)
    have hk0 := hk0.pf g95 hD
    refine sr_sub [] (sub_nil _) ?_
    refine sr_nil (t_end0 rfl ?_)
    refine ⟨rfl, ?_, g⟩
    rw [e]; simpa only [List.append_assoc, List.flatten_cons, List.flatten_nil, List.append_nil] using hP
  (try simp only [bsimp] at h6)
  refine sc_seq fun K20 hK20 => ?_
  refine sc_text [3, 3] ?_
  refine sr_pu rfl (fun _ => rd_eq (ev_t rfl) ev_c) ?_
  refine sr_pu rfl (fun _ => rd_assign (ev_t rfl)) ?_
  refine sr_sub [(0, _, _), (3, _, _), (5, _, _), (96, _, _)] (sub_cons rfl (sub_cons rfl (sub_cons rfl (sub_cons rfl (sub_nil _))))) ?_
  refine sr_nil (hK20 _ _ ?_)
  refine sc_cond (ev_t rfl) (fun h7 => ?_) (fun h7 => ?_)
  · replace h7 := of_decide_eq_true h7
    have hn0 := sh24 h7 hx
    have ht := digL_ne t.num.toNat
    have e := exT_24 h7 k
    rw [e] at hlen
    try simp only [List.length_append, List.length_cons, List.length_nil, List.flatten_cons, List.flatten_nil, List.append_nil, tabsL, List.length_replicate] at hlen
    refine sc_text [3, 3, 0, 1, 1, 2] ?_
    refine sr_pu rfl (fun _ => rd_move (ev_t rfl)) ?_
    refine sr_pu rfl (fun _ => rd_field fo_api_Node_2 (ev_t rfl)) ?_
    refine sr_rd rfl (rd_load one_int (ev_t rfl) (fun _ => B3.at_ rfl)) ?_
    refine sr_call rfl (rc_call go_strconv_Itoa ev_f (args_cons (ev_t rfl) (args_nil)) rfl) (itoa_ok t.num hn0 (ok_num hok) hP.tab) ?_
    rintro v101 w101 ⟨rfl, g101⟩
    refine ⟨fun _ => g101, ?_⟩
    have g := g.trans (PF.of_g (g101))
    replace B3 := B3.grow (g101)
    have hP := hP.grow (g101)
    have hk0 := hk0.grow (g101)
    try have hkid := hkid.grow (g101)
    refine sr_buildSlice [_] rfl el_sl_string ze_string (parts_cons (ev_t rfl) (parts_nil)) rfl rfl ?_
    intro b102 w102 N102
    have x102_3 := N102.ne B3
    have l102 := newge N102 g.size
    have g := g.trans (PF.of_g (N102.g))
    replace B3 := B3.grow (N102.g)
    have hP := hP.grow (N102.g)
    have hk0 := hk0.grow (N102.g)
    try have hkid := hkid.grow (N102.g)
    have B102 := N102.blk
    refine sr_call rfl (rc_call go_syntax_printer_write ev_f (args_cons (ev_t rfl) (args_cons (ev_t rfl) (args_nil))) rfl) (write_ok [digL t.num.toNat] hP B102 (by omega) (by first | omega | (simp only [List.length_append, List.length_cons, List.length_nil, List.flatten_cons, List.flatten_nil, List.append_nil, tabsL, List.length_replicate]; omega) | (simp at hlen ⊢ <;> omega)) (by first | rfl | (simp [ht]; done) | (simpa using ht)) (Nat.le_of_ble_eq_true rfl)) ?_
    rintro v103 w103 ⟨rfl, hP, g103⟩
    refine ⟨fun h => absurd h (by decide), ?_⟩
    have g := g.trans g103
    replace B3 := B3.pf g103 rfl (by omega)
    replace B102 := B102.pf g103 rfl (by omega)
    have hk0 := hk0.pf g103 hD
    refine sr_sub [] (sub_nil _) ?_
    refine sr_nil (t_end0 rfl ?_)
    refine ⟨rfl, ?_, g⟩
    rw [e]; simpa only [List.append_assoc, List.flatten_cons, List.flatten_nil, List.append_nil] using hP
  (try simp only [bsimp] at h7)
  refine sc_seq fun K21 hK21 => ?_
  refine sc_text [3, 3] ?_
  refine sr_pu rfl (fun _ => rd_eq (ev_t rfl) ev_c) ?_
  refine sr_pu rfl (fun _ => rd_assign (ev_t rfl)) ?_
  refine sr_sub [(0, _, _), (3, _, _), (5, _, _), (104, _, _)] (sub_cons rfl (sub_cons rfl (sub_cons rfl (sub_cons rfl (sub_nil _))))) ?_
  refine sr_nil (hK21 _ _ ?_)
  refine sc_cond (ev_t rfl) (fun h8 => ?_) (fun h8 => ?_)
  · replace h8 := of_decide_eq_true h8
    have ht : (bif decide (t.num = 1) then [116, 114, 117, 101] else [102, 97, 108, 115, 101] : List UInt8) ≠ [] := by cases decide (t.num = 1) <;> simp
    have e := exT_25 h8 k
    rw [e] at hlen
    try simp only [List.length_append, List.length_cons, List.length_nil, List.flatten_cons, List.flatten_nil, List.append_nil, tabsL, List.length_replicate] at hlen
    refine sc_text [3, 3, 0, 3, 1, 1, 2] ?_
    refine sr_pu rfl (fun _ => rd_move (ev_t rfl)) ?_
    refine sr_pu rfl (fun _ => rd_field fo_api_Node_2 (ev_t rfl)) ?_
    refine sr_rd rfl (rd_load one_int (ev_t rfl) (fun _ => B3.at_ rfl)) ?_
    refine sr_pu rfl (fun _ => rd_eq (ev_t rfl) ev_c) ?_
    refine sr_call rfl (rc_call go_strconv_FormatBool ev_f (args_cons (ev_t rfl) (args_nil)) rfl) (fbool_ok _ _) ?_
    rintro v110 w110 ⟨rfl, g110⟩
    refine ⟨fun _ => g110, ?_⟩
    have g := g.trans (PF.of_g (g110))
    replace B3 := B3.grow (g110)
    have hP := hP.grow (g110)
    have hk0 := hk0.grow (g110)
    try have hkid := hkid.grow (g110)
    refine sr_buildSlice [_] rfl el_sl_string ze_string (parts_cons (ev_t rfl) (parts_nil)) rfl rfl ?_
    intro b111 w111 N111
    have x111_3 := N111.ne B3
    have l111 := newge N111 g.size
    have g := g.trans (PF.of_g (N111.g))
    replace B3 := B3.grow (N111.g)
    have hP := hP.grow (N111.g)
    have hk0 := hk0.grow (N111.g)
    try have hkid := hkid.grow (N111.g)
    have B111 := N111.blk
    refine sr_call rfl (rc_call go_syntax_printer_write ev_f (args_cons (ev_t rfl) (args_cons (ev_t rfl) (args_nil))) rfl) (write_ok [bif decide (t.num = 1) then [116, 114, 117, 101] else [102, 97, 108, 115, 101]] hP B111 (by omega) (by first | omega | (simp only [List.length_append, List.length_cons, List.length_nil, List.flatten_cons, List.flatten_nil, List.append_nil, tabsL, List.length_replicate]; omega) | (simp at hlen ⊢ <;> omega)) (by first | rfl | (simp [ht]; done) | (simpa using ht)) (Nat.le_of_ble_eq_true rfl)) ?_
    rintro v112 w112 ⟨rfl, hP, g112⟩
    refine ⟨fun h => absurd h (by decide), ?_⟩
    have g := g.trans g112
    replace B3 := B3.pf g112 rfl (by omega)
    replace B111 := B111.pf g112 rfl (by omega)
    have hk0 := hk0.pf g112 hD
    refine sr_sub [] (sub_nil _) ?_
    refine sr_nil (t_end0 rfl ?_)
    refine ⟨rfl, ?_, g⟩
    rw [e]; simpa only [List.append_assoc, List.flatten_cons, List.flatten_nil, List.append_nil] using hP
  (try simp only [bsimp] at h8)
  refine sc_seq fun K22 hK22 => ?_
  refine sc_text [3, 3] ?_
  refine sr_pu rfl (fun _ => rd_eq (ev_t rfl) ev_c) ?_
  refine sr_pu rfl (fun _ => rd_assign (ev_t rfl)) ?_
  refine sr_sub [(0, _, _), (3, _, _), (5, _, _), (113, _, _)] (sub_cons rfl (sub_cons rfl (sub_cons rfl (sub_cons rfl (sub_nil _))))) ?_
  refine sr_nil (hK22 _ _ ?_)
  refine sc_cond (ev_t rfl) (fun h9 => ?_) (fun h9 => ?_)
  · replace h9 := of_decide_eq_true h9
    have e := exT_26 h9 k
    rw [e] at hlen
    try simp only [List.length_append, List.length_cons, List.length_nil, List.flatten_cons, List.flatten_nil, List.append_nil, tabsL, List.length_replicate] at hlen
    refine sc_text [3, 1, 2] ?_
    refine sr_pu rfl (fun _ => rd_move (ev_t rfl)) ?_
    refine sr_buildSlice [_] rfl el_sl_string ze_string (parts_cons ev_c (parts_nil)) rfl rfl ?_
    intro b116 w116 N116
    have x116_3 := N116.ne B3
    have l116 := newge N116 g.size
    have g := g.trans (PF.of_g (N116.g))
    replace B3 := B3.grow (N116.g)
    have hP := hP.grow (N116.g)
    have hk0 := hk0.grow (N116.g)
    try have hkid := hkid.grow (N116.g)
    have B116 := N116.blk
    refine sr_call rfl (rc_call go_syntax_printer_write ev_f (args_cons (ev_t rfl) (args_cons (ev_t rfl) (args_nil))) rfl) (write_ok [[110, 105, 108]] hP B116 (by omega) (by first | omega | (simp only [List.length_append, List.length_cons, List.length_nil, List.flatten_cons, List.flatten_nil, List.append_nil, tabsL, List.length_replicate]; omega) | (simp at hlen ⊢ <;> omega)) (by first | rfl | (simp [ht]; done) | (simpa using ht)) (Nat.le_of_ble_eq_true rfl)) ?_
    rintro v117 w117 ⟨rfl, hP, g117⟩
    refine ⟨fun h => absurd h (by decide), ?_⟩
    have g := g.trans g117
    replace B3 := B3.pf g117 rfl (by omega)
    replace B116 := B116.pf g117 rfl (by omega)
    have hk0 := hk0.pf g117 hD
    refine sr_sub [] (sub_nil _) ?_
    refine sr_nil (t_end0 rfl ?_)
    refine ⟨rfl, ?_, g⟩
    rw [e]; simpa only [List.append_assoc, List.flatten_cons, List.flatten_nil, List.append_nil] using hP
  (try simp only [bsimp] at h9)
  refine sc_seq fun K23 hK23 => ?_
  refine sc_text [3, 3] ?_
  refine sr_pu rfl (fun _ => rd_eq (ev_t rfl) ev_c) ?_
  refine sr_pu rfl (fun _ => rd_assign (ev_t rfl)) ?_
  refine sr_sub [(0, _, _), (3, _, _), (5, _, _), (118, _, _)] (sub_cons rfl (sub_cons rfl (sub_cons rfl (sub_cons rfl (sub_nil _))))) ?_
  refine sr_nil (hK23 _ _ ?_)
  refine sc_cond (ev_t rfl) (fun h10 => ?_) (fun h10 => ?_)
  · replace h10 := of_decide_eq_true h10
    have ht := sh27 h10 hx
    have e := exT_27 h10 k
    rw [e] at hlen
    try simp only [List.length_append, List.length_cons, List.length_nil, List.flatten_cons, List.flatten_nil, List.append_nil, tabsL, List.length_replicate] at hlen
    refine sc_text [3, 3, 0, 1, 2] ?_
    refine sr_pu rfl (fun _ => rd_move (ev_t rfl)) ?_
    refine sr_pu rfl (fun _ => rd_field fo_api_Node_1 (ev_t rfl)) ?_
    refine sr_rd rfl (rd_load one_string (ev_t rfl) (fun _ => B3.at_ rfl)) ?_
    refine sr_buildSlice [_] rfl el_sl_string ze_string (parts_cons (ev_t rfl) (parts_nil)) rfl rfl ?_
    intro b123 w123 N123
    have x123_3 := N123.ne B3
    have l123 := newge N123 g.size
    have g := g.trans (PF.of_g (N123.g))
    replace B3 := B3.grow (N123.g)
    have hP := hP.grow (N123.g)
    have hk0 := hk0.grow (N123.g)
    try have hkid := hkid.grow (N123.g)
    have B123 := N123.blk
    refine sr_call rfl (rc_call go_syntax_printer_write ev_f (args_cons (ev_t rfl) (args_cons (ev_t rfl) (args_nil))) rfl) (write_ok [t.text] hP B123 (by omega) (by first | omega | (simp only [List.length_append, List.length_cons, List.length_nil, List.flatten_cons, List.flatten_nil, List.append_nil, tabsL, List.length_replicate]; omega) | (simp at hlen ⊢ <;> omega)) (by first | rfl | (simp [ht]; done) | (simpa using ht)) (Nat.le_of_ble_eq_true rfl)) ?_
    rintro v124 w124 ⟨rfl, hP, g124⟩
    refine ⟨fun h => absurd h (by decide), ?_⟩
    have g := g.trans g124
    replace B3 := B3.pf g124 rfl (by omega)
    replace B123 := B123.pf g124 rfl (by omega)
    have hk0 := hk0.pf g124 hD
    refine sr_sub [] (sub_nil _) ?_
    refine sr_nil (t_end0 rfl ?_)
    refine ⟨rfl, ?_, g⟩
    rw [e]; simpa only [List.append_assoc, List.flatten_cons, List.flatten_nil, List.append_nil] using hP
  (try simp only [bsimp] at h10)
  refine sc_seq fun K24 hK24 => ?_
  refine sc_text [3, 3] ?_
  refine sr_pu rfl (fun _ => rd_eq (ev_t rfl) ev_c) ?_
  refine sr_pu rfl (fun _ => rd_assign (ev_t rfl)) ?_
  refine sr_sub [(0, _, _), (3, _, _), (5, _, _), (125, _, _)] (sub_cons rfl (sub_cons rfl (sub_cons rfl (sub_cons rfl (sub_nil _))))) ?_
  refine sr_nil (hK24 _ _ ?_)
  refine sc_cond (ev_t rfl) (fun h11 => ?_) (fun h11 => ?_)
  · replace h11 := of_decide_eq_true h11
    have ht := sh34 h11 hx
    have e := exT_34 h11 k
    rw [e] at hlen
    try simp only [List.length_append, List.length_cons, List.length_nil, List.flatten_cons, List.flatten_nil, List.append_nil, tabsL, List.length_replicate] at hlen
    refine sc_text [3, 3, 0, 1, 2] ?_
    refine sr_pu rfl (fun _ => rd_move (ev_t rfl)) ?_
    refine sr_pu rfl (fun _ => rd_field fo_api_Node_1 (ev_t rfl)) ?_
    refine sr_rd rfl (rd_load one_string (ev_t rfl) (fun _ => B3.at_ rfl)) ?_
    refine sr_buildSlice [_, _, _] rfl el_sl_string ze_string (parts_cons ev_c (parts_cons (ev_t rfl) (parts_cons ev_c (parts_nil)))) rfl rfl ?_
    intro b130 w130 N130
    have x130_3 := N130.ne B3
    have l130 := newge N130 g.size
    have g := g.trans (PF.of_g (N130.g))
    replace B3 := B3.grow (N130.g)
    have hP := hP.grow (N130.g)
    have hk0 := hk0.grow (N130.g)
    try have hkid := hkid.grow (N130.g)
    have B130 := N130.blk
    refine sr_call rfl (rc_call go_syntax_printer_write ev_f (args_cons (ev_t rfl) (args_cons (ev_t rfl) (args_nil))) rfl) (write_ok [[110, 101, 119, 40], t.text, [41]] hP B130 (by omega) (by first | omega | (simp only [List.length_append, List.length_cons, List.length_nil, List.flatten_cons, List.flatten_nil, List.append_nil, tabsL, List.length_replicate]; omega) | (simp at hlen ⊢ <;> omega)) (by first | rfl | (simp [ht]; done) | (simpa using ht)) (Nat.le_of_ble_eq_true rfl)) ?_
    rintro v131 w131 ⟨rfl, hP, g131⟩
    refine ⟨fun h => absurd h (by decide), ?_⟩
    have g := g.trans g131
    replace B3 := B3.pf g131 rfl (by omega)
    replace B130 := B130.pf g131 rfl (by omega)
    have hk0 := hk0.pf g131 hD
    refine sr_sub [] (sub_nil _) ?_
    refine sr_nil (t_end0 rfl ?_)
    refine ⟨rfl, ?_, g⟩
    rw [e]; simpa only [List.append_assoc, List.flatten_cons, List.flatten_nil, List.append_nil] using hP
  (try simp only [bsimp] at h11)
  refine sc_seq fun K25 hK25 => ?_
  refine sc_text [3, 3] ?_
  refine sr_pu rfl (fun _ => rd_eq (ev_t rfl) ev_c) ?_
  refine sr_pu rfl (fun _ => rd_assign (ev_t rfl)) ?_
  refine sr_sub [(0, _, _), (3, _, _), (5, _, _), (132, _, _)] (sub_cons rfl (sub_cons rfl (sub_cons rfl (sub_cons rfl (sub_nil _))))) ?_
  refine sr_nil (hK25 _ _ ?_)
  refine sc_cond (ev_t rfl) (fun h12 => ?_) (fun h12 => ?_)
  · replace h12 := of_decide_eq_true h12
    obtain ⟨hl, he0⟩ := sh35 h12 hx
    have hE0 := ih.e (by omega) he0 hok
    have hEs := ih.es (all_one hl he0) hok
    have e := exT_35 h12 hl k
    rw [e] at hlen
    try simp only [List.length_append, List.length_cons, List.length_nil, List.flatten_cons, List.flatten_nil, List.append_nil, tabsL, List.length_replicate] at hlen
    refine sc_seq fun K26 hK26 => ?_
    refine sc_text [3, 1, 2] ?_
    refine sr_pu rfl (fun _ => rd_move (ev_t rfl)) ?_
    refine sr_buildSlice [_] rfl el_sl_string ze_string (parts_cons ev_c (parts_nil)) rfl rfl ?_
    intro b135 w135 N135
    have x135_3 := N135.ne B3
    have l135 := newge N135 g.size
    have g := g.trans (PF.of_g (N135.g))
    replace B3 := B3.grow (N135.g)
    have hP := hP.grow (N135.g)
    have hk0 := hk0.grow (N135.g)
    try have hkid := hkid.grow (N135.g)
    have B135 := N135.blk
    refine sr_call rfl (rc_call go_syntax_printer_write ev_f (args_cons (ev_t rfl) (args_cons (ev_t rfl) (args_nil))) rfl) (write_ok [[109, 97, 107, 101, 40, 91, 93, 105, 110, 116, 44, 32]] hP B135 (by omega) (by first | omega | (simp only [List.length_append, List.length_cons, List.length_nil, List.flatten_cons, List.flatten_nil, List.append_nil, tabsL, List.length_replicate]; omega) | (simp at hlen ⊢ <;> omega)) (by first | rfl | (simp [ht]; done) | (simpa using ht)) (Nat.le_of_ble_eq_true rfl)) ?_
    rintro v136 w136 ⟨rfl, hP, g136⟩
    refine ⟨fun h => absurd h (by decide), ?_⟩
    have g := g.trans g136
    replace B3 := B3.pf g136 rfl (by omega)
    replace B135 := B135.pf g136 rfl (by omega)
    have hk0 := hk0.pf g136 hD
    refine sr_sub [(0, _, _), (3, _, _)] (sub_cons rfl (sub_cons rfl (sub_nil _))) ?_
    refine sr_nil (hK26 _ _ ?_)
    refine sc_seq fun K27 hK27 => ?_
    refine sc_text [3, 3, 0, 2] ?_
    refine sr_pu rfl (fun _ => rd_move (ev_t rfl)) ?_
    refine sr_pu rfl (fun _ => rd_field fo_api_Node_4 (ev_t rfl)) ?_
    refine sr_rd rfl (rd_load one_sl_api_Node (ev_t rfl) (fun _ => B3.at_ rfl)) ?_
    refine sr_call rfl (rc_call go_syntax_printer_list ev_f (args_cons (ev_t rfl) (args_cons (ev_t rfl) (args_nil))) rfl) (list_ok hEs hk0 hD hP (by first | omega | (simp only [List.length_append, List.length_cons, List.length_nil, List.flatten_cons, List.flatten_nil, List.append_nil, tabsL, List.length_replicate]; omega)) (by omega)) ?_
    rintro v140 w140 ⟨rfl, hP, g140⟩
    refine ⟨fun h => absurd h (by decide), ?_⟩
    have g := g.trans g140
    replace B3 := B3.pf g140 rfl (by omega)
    replace B135 := B135.pf g140 rfl (by omega)
    have hk0 := hk0.pf g140 hD
    refine sr_sub [(0, _, _)] (sub_cons rfl (sub_nil _)) ?_
    refine sr_nil (hK27 _ _ ?_)
    refine sc_text [3, 1, 2] ?_
    refine sr_pu rfl (fun _ => rd_move (ev_t rfl)) ?_
    refine sr_buildSlice [_] rfl el_sl_string ze_string (parts_cons ev_c (parts_nil)) rfl rfl ?_
    intro b142 w142 N142
    have x142_3 := N142.ne B3
    have x142_135 := N142.ne B135
    have l142 := newge N142 g.size
    have g := g.trans (PF.of_g (N142.g))
    replace B3 := B3.grow (N142.g)
    replace B135 := B135.grow (N142.g)
    have hP := hP.grow (N142.g)
    have hk0 := hk0.grow (N142.g)
    try have hkid := hkid.grow (N142.g)
    have B142 := N142.blk
    refine sr_call rfl (rc_call go_syntax_printer_write ev_f (args_cons (ev_t rfl) (args_cons (ev_t rfl) (args_nil))) rfl) (write_ok [[41]] hP B142 (by omega) (by first | omega | (simp only [List.length_append, List.length_cons, List.length_nil, List.flatten_cons, List.flatten_nil, List.append_nil, tabsL, List.length_replicate]; omega) | (simp at hlen ⊢ <;> omega)) (by first | rfl | (simp [ht]; done) | (simpa using ht)) (Nat.le_of_ble_eq_true rfl)) ?_
    rintro v143 w143 ⟨rfl, hP, g143⟩
    refine ⟨fun h => absurd h (by decide), ?_⟩
    have g := g.trans g143
    replace B3 := B3.pf g143 rfl (by omega)
    replace B135 := B135.pf g143 rfl (by omega)
    replace B142 := B142.pf g143 rfl (by omega)
    have hk0 := hk0.pf g143 hD
    refine sr_sub [] (sub_nil _) ?_
    refine sr_nil (t_end0 rfl ?_)
    refine ⟨rfl, ?_, g⟩
    rw [e]; simpa only [List.append_assoc, List.flatten_cons, List.flatten_nil, List.append_nil] using hP
  (try simp only [bsimp] at h12)
  refine sc_seq fun K28 hK28 => ?_
  refine sc_text [3, 3] ?_
  refine sr_pu rfl (fun _ => rd_eq (ev_t rfl) ev_c) ?_
  refine sr_pu rfl (fun _ => rd_assign (ev_t rfl)) ?_
  refine sr_sub [(0, _, _), (3, _, _), (5, _, _), (144, _, _)] (sub_cons rfl (sub_cons rfl (sub_cons rfl (sub_cons rfl (sub_nil _))))) ?_
  refine sr_nil (hK28 _ _ ?_)
  refine sc_cond (ev_t rfl) (fun h13 => ?_) (fun h13 => ?_)
  · replace h13 := of_decide_eq_true h13
    obtain ⟨hl, he0⟩ := sh36 h13 hx
    have hE0 := ih.e (by omega) he0 hok
    have hEs := ih.es (all_one hl he0) hok
    have e := exT_36 h13 hl k
    rw [e] at hlen
    try simp only [List.length_append, List.length_cons, List.length_nil, List.flatten_cons, List.flatten_nil, List.append_nil, tabsL, List.length_replicate] at hlen
    refine sc_seq fun K29 hK29 => ?_
    refine sc_text [3, 1, 2] ?_
    refine sr_pu rfl (fun _ => rd_move (ev_t rfl)) ?_
    refine sr_buildSlice [_] rfl el_sl_string ze_string (parts_cons ev_c (parts_nil)) rfl rfl ?_
    intro b147 w147 N147
    have x147_3 := N147.ne B3
    have l147 := newge N147 g.size
    have g := g.trans (PF.of_g (N147.g))
    replace B3 := B3.grow (N147.g)
    have hP := hP.grow (N147.g)
    have hk0 := hk0.grow (N147.g)
    try have hkid := hkid.grow (N147.g)
    have B147 := N147.blk
    refine sr_call rfl (rc_call go_syntax_printer_write ev_f (args_cons (ev_t rfl) (args_cons (ev_t rfl) (args_nil))) rfl) (write_ok [[109, 97, 107, 101, 40, 99, 104, 97, 110, 32, 105, 110, 116, 44, 32]] hP B147 (by omega) (by first | omega | (simp only [List.length_append, List.length_cons, List.length_nil, List.flatten_cons, List.flatten_nil, List.append_nil, tabsL, List.length_replicate]; omega) | (simp at hlen ⊢ <;> omega)) (by first | rfl | (simp [ht]; done) | (simpa using ht)) (Nat.le_of_ble_eq_true rfl)) ?_
    rintro v148 w148 ⟨rfl, hP, g148⟩
    refine ⟨fun h => absurd h (by decide), ?_⟩
    have g := g.trans g148
    replace B3 := B3.pf g148 rfl (by omega)
    replace B147 := B147.pf g148 rfl (by omega)
    have hk0 := hk0.pf g148 hD
    refine sr_sub [(0, _, _), (3, _, _)] (sub_cons rfl (sub_cons rfl (sub_nil _))) ?_
    refine sr_nil (hK29 _ _ ?_)
    refine sc_seq fun K30 hK30 => ?_
    refine sc_text [3, 3, 0, 2] ?_
    refine sr_pu rfl (fun _ => rd_move (ev_t rfl)) ?_
    refine sr_pu rfl (fun _ => rd_field fo_api_Node_4 (ev_t rfl)) ?_
    refine sr_rd rfl (rd_load one_sl_api_Node (ev_t rfl) (fun _ => B3.at_ rfl)) ?_
    refine sr_call rfl (rc_call go_syntax_printer_list ev_f (args_cons (ev_t rfl) (args_cons (ev_t rfl) (args_nil))) rfl) (list_ok hEs hk0 hD hP (by first | omega | (simp only [List.length_append, List.length_cons, List.length_nil, List.flatten_cons, List.flatten_nil, List.append_nil, tabsL, List.length_replicate]; omega)) (by omega)) ?_
    rintro v152 w152 ⟨rfl, hP, g152⟩
    refine ⟨fun h => absurd h (by decide), ?_⟩
    have g := g.trans g152
    replace B3 := B3.pf g152 rfl (by omega)
    replace B147 := B147.pf g152 rfl (by omega)
    have hk0 := hk0.pf g152 hD
    refine sr_sub [(0, _, _)] (sub_cons rfl (sub_nil _)) ?_
    refine sr_nil (hK30 _ _ ?_)
    refine sc_text [3, 1, 2] ?_
    refine sr_pu rfl (fun _ => rd_move (ev_t rfl)) ?_
    refine sr_buildSlice [_] rfl el_sl_string ze_string (parts_cons ev_c (parts_nil)) rfl rfl ?_
    intro b154 w154 N154
    have x154_3 := N154.ne B3
    have x154_147 := N154.ne B147
    have l154 := newge N154 g.size
    have g := g.trans (PF.of_g (N154.g))
    replace B3 := B3.grow (N154.g)
    replace B147 := B147.grow (N154.g)
    have hP := hP.grow (N154.g)
    have hk0 := hk0.grow (N154.g)
    try have hkid := hkid.grow (N154.g)
    have B154 := N154.blk
    refine sr_call rfl (rc_call go_syntax_printer_write ev_f (args_cons (ev_t rfl) (args_cons (ev_t rfl) (args_nil))) rfl) (write_ok [[41]] hP B154 (by omega) (by first | omega | (simp only [List.length_append, List.length_cons, List.length_nil, List.flatten_cons, List.flatten_nil, List.append_nil, tabsL, List.length_replicate]; omega) | (simp at hlen ⊢ <;> omega)) (by first | rfl | (simp [ht]; done) | (simpa using ht)) (Nat.le_of_ble_eq_true rfl)) ?_
    rintro v155 w155 ⟨rfl, hP, g155⟩
    refine ⟨fun h => absurd h (by decide), ?_⟩
    have g := g.trans g155
    replace B3 := B3.pf g155 rfl (by omega)
    replace B147 := B147.pf g155 rfl (by omega)
    replace B154 := B154.pf g155 rfl (by omega)
    have hk0 := hk0.pf g155 hD
    refine sr_sub [] (sub_nil _) ?_
    refine sr_nil (t_end0 rfl ?_)
    refine ⟨rfl, ?_, g⟩
    rw [e]; simpa only [List.append_assoc, List.flatten_cons, List.flatten_nil, List.append_nil] using hP
  (try simp only [bsimp] at h13)
  refine sc_seq fun K31 hK31 => ?_
  refine sc_text [3, 3] ?_
  refine sr_pu rfl (fun _ => rd_eq (ev_t rfl) ev_c) ?_
  refine sr_pu rfl (fun _ => rd_assign (ev_t rfl)) ?_
  refine sr_sub [(0, _, _), (3, _, _), (5, _, _), (156, _, _)] (sub_cons rfl (sub_cons rfl (sub_cons rfl (sub_cons rfl (sub_nil _))))) ?_
  refine sr_nil (hK31 _ _ ?_)
  refine sc_cond (ev_t rfl) (fun h14 => ?_) (fun h14 => ?_)
  · replace h14 := of_decide_eq_true h14
    obtain ⟨hl, he0⟩ := sh37 h14 hx
    have hE0 := ih.e (by omega) he0 hok
    have hEs := ih.es (all_one hl he0) hok
    have e := exT_37 h14 hl k
    rw [e] at hlen
    try simp only [List.length_append, List.length_cons, List.length_nil, List.flatten_cons, List.flatten_nil, List.append_nil, tabsL, List.length_replicate] at hlen
    refine sc_seq fun K32 hK32 => ?_
    refine sc_text [3, 1, 2] ?_
    refine sr_pu rfl (fun _ => rd_move (ev_t rfl)) ?_
    refine sr_buildSlice [_] rfl el_sl_string ze_string (parts_cons ev_c (parts_nil)) rfl rfl ?_
    intro b159 w159 N159
    have x159_3 := N159.ne B3
    have l159 := newge N159 g.size
    have g := g.trans (PF.of_g (N159.g))
    replace B3 := B3.grow (N159.g)
    have hP := hP.grow (N159.g)
    have hk0 := hk0.grow (N159.g)
    try have hkid := hkid.grow (N159.g)
    have B159 := N159.blk
    refine sr_call rfl (rc_call go_syntax_printer_write ev_f (args_cons (ev_t rfl) (args_cons (ev_t rfl) (args_nil))) rfl) (write_ok [[108, 101, 110, 40]] hP B159 (by omega) (by first | omega | (simp only [List.length_append, List.length_cons, List.length_nil, List.flatten_cons, List.flatten_nil, List.append_nil, tabsL, List.length_replicate]; omega) | (simp at hlen ⊢ <;> omega)) (by first | rfl | (simp [ht]; done) | (simpa using ht)) (Nat.le_of_ble_eq_true rfl)) ?_
    rintro v160 w160 ⟨rfl, hP, g160⟩
    refine ⟨fun h => absurd h (by decide), ?_⟩
    have g := g.trans g160
    replace B3 := B3.pf g160 rfl (by omega)
    replace B159 := B159.pf g160 rfl (by omega)
    have hk0 := hk0.pf g160 hD
    refine sr_sub [(0, _, _), (3, _, _)] (sub_cons rfl (sub_cons rfl (sub_nil _))) ?_
    refine sr_nil (hK32 _ _ ?_)
    refine sc_seq fun K33 hK33 => ?_
    refine sc_text [3, 3, 0, 2] ?_
    refine sr_pu rfl (fun _ => rd_move (ev_t rfl)) ?_
    refine sr_pu rfl (fun _ => rd_field fo_api_Node_4 (ev_t rfl)) ?_
    refine sr_rd rfl (rd_load one_sl_api_Node (ev_t rfl) (fun _ => B3.at_ rfl)) ?_
    refine sr_call rfl (rc_call go_syntax_printer_list ev_f (args_cons (ev_t rfl) (args_cons (ev_t rfl) (args_nil))) rfl) (list_ok hEs hk0 hD hP (by first | omega | (simp only [List.length_append, List.length_cons, List.length_nil, List.flatten_cons, List.flatten_nil, List.append_nil, tabsL, List.length_replicate]; omega)) (by omega)) ?_
    rintro v164 w164 ⟨rfl, hP, g164⟩
    refine ⟨fun h => absurd h (by decide), ?_⟩
    have g := g.trans g164
    replace B3 := B3.pf g164 rfl (by omega)
    replace B159 := B159.pf g164 rfl (by omega)
    have hk0 := hk0.pf g164 hD
    refine sr_sub [(0, _, _)] (sub_cons rfl (sub_nil _)) ?_
    refine sr_nil (hK33 _ _ ?_)
    refine sc_text [3, 1, 2] ?_
    refine sr_pu rfl (fun _ => rd_move (ev_t rfl)) ?_
    refine sr_buildSlice [_] rfl el_sl_string ze_string (parts_cons ev_c (parts_nil)) rfl rfl ?_
    intro b166 w166 N166
    have x166_3 := N166.ne B3
    have x166_159 := N166.ne B159
    have l166 := newge N166 g.size
    have g := g.trans (PF.of_g (N166.g))
    replace B3 := B3.grow (N166.g)
    replace B159 := B159.grow (N166.g)
    have hP := hP.grow (N166.g)
    have hk0 := hk0.grow (N166.g)
    try have hkid := hkid.grow (N166.g)
    have B166 := N166.blk
    refine sr_call rfl (rc_call go_syntax_printer_write ev_f (args_cons (ev_t rfl) (args_cons (ev_t rfl) (args_nil))) rfl) (write_ok [[41]] hP B166 (by omega) (by first | omega | (simp only [List.length_append, List.length_cons, List.length_nil, List.flatten_cons, List.flatten_nil, List.append_nil, tabsL, List.length_replicate]; omega) | (simp at hlen ⊢ <;> omega)) (by first | rfl | (simp [ht]; done) | (simpa using ht)) (Nat.le_of_ble_eq_true rfl)) ?_
    rintro v167 w167 ⟨rfl, hP, g167⟩
    refine ⟨fun h => absurd h (by decide), ?_⟩
    have g := g.trans g167
    replace B3 := B3.pf g167 rfl (by omega)
    replace B159 := B159.pf g167 rfl (by omega)
    replace B166 := B166.pf g167 rfl (by omega)
    have hk0 := hk0.pf g167 hD
    refine sr_sub [] (sub_nil _) ?_
    refine sr_nil (t_end0 rfl ?_)
    refine ⟨rfl, ?_, g⟩
    rw [e]; simpa only [List.append_assoc, List.flatten_cons, List.flatten_nil, List.append_nil] using hP
  (try simp only [bsimp] at h14)
  refine sc_seq fun K34 hK34 => ?_
  refine sc_text [3, 3] ?_
  refine sr_pu rfl (fun _ => rd_eq (ev_t rfl) ev_c) ?_
  refine sr_pu rfl (fun _ => rd_assign (ev_t rfl)) ?_
  refine sr_sub [(0, _, _), (3, _, _), (168, _, _)] (sub_cons rfl (sub_cons rfl (sub_cons rfl (sub_nil _)))) ?_
  refine sr_nil (hK34 _ _ ?_)
  refine sc_cond (ev_t rfl) (fun h15 => ?_) (fun h15 => ?_)
  · replace h15 := of_decide_eq_true h15
    obtain ⟨hl, hb0⟩ := sh38 h15 hx
    have hB0 := ih.b (by omega) hb0 hok
    have hc0 := count_kidAt (t := t) (i := 0) (by omega)
    have e := exT_38 h15 hl k
    rw [e] at hlen
    try simp only [List.length_append, List.length_cons, List.length_nil, List.flatten_cons, List.flatten_nil, List.append_nil, tabsL, List.length_replicate] at hlen
    refine sc_seq fun K35 hK35 => ?_
    refine sc_text [3, 1, 2] ?_
    refine sr_pu rfl (fun _ => rd_move (ev_t rfl)) ?_
    refine sr_buildSlice [_] rfl el_sl_string ze_string (parts_cons ev_c (parts_nil)) rfl rfl ?_
    intro b171 w171 N171
    have x171_3 := N171.ne B3
    have l171 := newge N171 g.size
    have g := g.trans (PF.of_g (N171.g))
    replace B3 := B3.grow (N171.g)
    have hP := hP.grow (N171.g)
    have hk0 := hk0.grow (N171.g)
    try have hkid := hkid.grow (N171.g)
    have B171 := N171.blk
    refine sr_call rfl (rc_call go_syntax_printer_write ev_f (args_cons (ev_t rfl) (args_cons (ev_t rfl) (args_nil))) rfl) (write_ok [[102, 117, 110, 99, 40, 41, 32]] hP B171 (by omega) (by first | omega | (simp only [List.length_append, List.length_cons, List.length_nil, List.flatten_cons, List.flatten_nil, List.append_nil, tabsL, List.length_replicate]; omega) | (simp at hlen ⊢ <;> omega)) (by first | rfl | (simp [ht]; done) | (simpa using ht)) (Nat.le_of_ble_eq_true rfl)) ?_
    rintro v172 w172 ⟨rfl, hP, g172⟩
    refine ⟨fun h => absurd h (by decide), ?_⟩
    have g := g.trans g172
    replace B3 := B3.pf g172 rfl (by omega)
    replace B171 := B171.pf g172 rfl (by omega)
    have hk0 := hk0.pf g172 hD
    refine sr_sub [(0, _, _), (3, _, _)] (sub_cons rfl (sub_cons rfl (sub_nil _))) ?_
    refine sr_nil (hK35 _ _ ?_)
    refine sc_text [3, 3, 0, 3, 0, 2] ?_
    refine sr_pu rfl (fun _ => rd_move (ev_t rfl)) ?_
    refine sr_pu rfl (fun _ => rd_field fo_api_Node_4 (ev_t rfl)) ?_
    refine sr_rd rfl (rd_load one_sl_api_Node (ev_t rfl) (fun _ => B3.at_ rfl)) ?_
    obtain ⟨hpe, p_176, c_176, hcell, hkid⟩ := kd_opt hk0 (i := 0) (by omega)
    refine sr_pu rfl (fun _ => rd_idxq el_sl_api_Node (ev_t rfl) ev_c (fun _ => by omega) (fun _ => hpe)) ?_
    refine sr_rd rfl (rd_loads agg_api_Node (ev_t rfl) rfl (fun _ => hcell)) ?_
    refine sr_call rfl (rc_call go_syntax_printer_block ev_f (args_cons (ev_t rfl) (args_cons (ev_t rfl) (args_nil))) rfl) (hB0 _ _ D n0 b _ k _ hkid hD hP (by first | omega | (simp only [List.length_append, List.length_cons, List.length_nil, List.flatten_cons, List.flatten_nil, List.append_nil, tabsL, List.length_replicate]; omega)) (by omega)) ?_
    rintro v178 w178 ⟨rfl, hP, g178⟩
    refine ⟨fun h => absurd h (by decide), ?_⟩
    have g := g.trans g178
    replace B3 := B3.pf g178 rfl (by omega)
    replace B171 := B171.pf g178 rfl (by omega)
    have hk0 := hk0.pf g178 hD
    refine sr_sub [] (sub_nil _) ?_
    refine sr_nil (t_end0 rfl ?_)
    refine ⟨rfl, ?_, g⟩
    rw [e]; simpa only [List.append_assoc, List.flatten_cons, List.flatten_nil, List.append_nil] using hP
  (try simp only [bsimp] at h15)
  exfalso; have hks := exp_kinds hx; simp only [bsimp, decide_eq_false_iff_not] at h1 h2 h3 h4 h5 h6 h7 h8 h9 h10 h11 h12 h13 h14 h15; omega
end Go.Rk
namespace Go.Rk
open Go Go.RowKit
set_option linter.unusedVariables false
set_option maxHeartbeats 4000000 in
theorem simple_ok {t : Nd} (ih : PBel t) (hx : stmtB t = true) (hok : okNd t) (hkk : t.kind = 11 ∨ t.kind = 12 ∨ t.kind = 13 ∨ t.kind = 14 ∨ t.kind = 15 ∨ t.kind = 16 ∨ t.kind = 17 ∨ t.kind = 20 ∨ t.kind = 21) : PrOk fn_syntax_printer_simple stT t := by
  intro p c D n0 b l k w hk0 hD hP hlen hc
  have g := PF.refl n0 b w
  have hbn := hP.ge
  have hcn : count t = 1 + (t.kids.map count).sum := count_eq t
  refine ret_of_sc (m := 99) func_syntax_printer_simple rfl rfl [(0, True, _), (1, True, _)] (sub_cons rfl (sub_cons rfl (sub_nil _))) ?_
  refine sc_seq fun K1 hK1 => ?_
  refine sc_text [1] ?_
  refine sr_box rfl (ev_t rfl) rfl ?_
  intro b3 w3 N3
  have l3 := newge N3 g.size
  have g := g.trans (PF.of_g (N3.g))
  have hP := hP.grow (N3.g)
  have hk0 := hk0.grow (N3.g)
  try have hkid := hkid.grow (N3.g)
  have B3 := N3.blk
  refine sr_sub [(0, _, _), (3, _, _)] (sub_cons rfl (sub_cons rfl (sub_nil _))) ?_
  refine sr_nil (hK1 _ _ ?_)
  refine sc_seq fun K2 hK2 => ?_
  refine sc_text [3, 0] ?_
  refine sr_pu rfl (fun _ => rd_field fo_api_Node_0 (ev_t rfl)) ?_
  refine sr_rd rfl (rd_load one_int (ev_t rfl) (fun _ => B3.at_ rfl)) ?_
  refine sr_sub [(0, _, _), (3, _, _), (5, _, _)] (sub_cons rfl (sub_cons rfl (sub_cons rfl (sub_nil _)))) ?_
  refine sr_nil (hK2 _ _ ?_)
  refine sc_block ?_
  refine sc_seq fun K3 hK3 => ?_
  refine sc_text [3, 3] ?_
  refine sr_pu rfl (fun _ => rd_eq (ev_t rfl) ev_c) ?_
  refine sr_pu rfl (fun _ => rd_assign (ev_t rfl)) ?_
  refine sr_sub [(0, _, _), (3, _, _), (5, _, _), (6, _, _)] (sub_cons rfl (sub_cons rfl (sub_cons rfl (sub_cons rfl (sub_nil _))))) ?_
  refine sr_nil (hK3 _ _ ?_)
  refine sc_cond (ev_t rfl) (fun h1 => ?_) (fun h1 => ?_)
  · replace h1 := of_decide_eq_true h1
    obtain ⟨ht, hl, he0⟩ := sh11 h1 hx
    have hE0 := ih.e (by omega) he0 hok
    have hc0 := count_kidAt (t := t) (i := 0) (by omega)
    have e := stT_11 h1 hl k
    rw [e] at hlen
    simp only [List.length_append, List.length_cons, List.length_nil, List.flatten_cons, List.flatten_nil, List.append_nil, tabsL, List.length_replicate] at hlen
    refine sc_seq fun K4 hK4 => ?_
    refine sc_text [3, 3, 0, 1, 2] ?_
    refine sr_pu rfl (fun _ => rd_move (ev_t rfl)) ?_
    refine sr_pu rfl (fun _ => rd_field fo_api_Node_1 (ev_t rfl)) ?_
    refine sr_rd rfl (rd_load one_string (ev_t rfl) (fun _ => B3.at_ rfl)) ?_
    refine sr_buildSlice [_, _] rfl el_sl_string ze_string (parts_cons (ev_t rfl) (parts_cons ev_c (parts_nil))) rfl rfl ?_
    intro b11 w11 N11
    have x11_3 := N11.ne B3
    have l11 := newge N11 g.size
    have g := g.trans (PF.of_g (N11.g))
    replace B3 := B3.grow (N11.g)
    have hP := hP.grow (N11.g)
    have hk0 := hk0.grow (N11.g)
    try have hkid := hkid.grow (N11.g)
    have B11 := N11.blk
    refine sr_call rfl (rc_call go_syntax_printer_write ev_f (args_cons (ev_t rfl) (args_cons (ev_t rfl) (args_nil))) rfl) (write_ok [t.text, [32, 58, 61, 32]] hP B11 (by omega) (by first | omega | (simp only [List.length_append, List.length_cons, List.length_nil, List.flatten_cons, List.flatten_nil, List.append_nil, tabsL, List.length_replicate]; omega) | (simp at hlen ⊢ <;> omega)) (by first | rfl | (simp [ht]; done) | (simpa using ht)) (Nat.le_of_ble_eq_true rfl)) ?_
    rintro v12 w12 ⟨rfl, hP, g12⟩
    refine ⟨fun h => absurd h (by decide), ?_⟩
    have g := g.trans g12
    replace B3 := B3.pf g12 rfl (by omega)
    replace B11 := B11.pf g12 rfl (by omega)
    have hk0 := hk0.pf g12 hD
    refine sr_sub [(0, _, _), (3, _, _)] (sub_cons rfl (sub_cons rfl (sub_nil _))) ?_
    refine sr_nil (hK4 _ _ ?_)
    refine sc_text [3, 3, 0, 3, 0, 2] ?_
    refine sr_pu rfl (fun _ => rd_move (ev_t rfl)) ?_
    refine sr_pu rfl (fun _ => rd_field fo_api_Node_4 (ev_t rfl)) ?_
    refine sr_rd rfl (rd_load one_sl_api_Node (ev_t rfl) (fun _ => B3.at_ rfl)) ?_
    obtain ⟨hpe, p_16, c_16, hcell, hkid⟩ := kd_opt hk0 (i := 0) (by omega)
    refine sr_pu rfl (fun _ => rd_idxq el_sl_api_Node (ev_t rfl) ev_c (fun _ => by omega) (fun _ => hpe)) ?_
    refine sr_rd rfl (rd_loads agg_api_Node (ev_t rfl) rfl (fun _ => hcell)) ?_
    refine sr_call rfl (rc_call go_syntax_printer_expr ev_f (args_cons (ev_t rfl) (args_cons (ev_t rfl) (args_nil))) rfl) (hE0 _ _ D n0 b _ k _ hkid hD hP (by first | omega | (simp only [List.length_append, List.length_cons, List.length_nil, List.flatten_cons, List.flatten_nil, List.append_nil, tabsL, List.length_replicate]; omega)) (by omega)) ?_
    rintro v18 w18 ⟨rfl, hP, g18⟩
    refine ⟨fun h => absurd h (by decide), ?_⟩
    have g := g.trans g18
    replace B3 := B3.pf g18 rfl (by omega)
    replace B11 := B11.pf g18 rfl (by omega)
    have hk0 := hk0.pf g18 hD
    refine sr_sub [] (sub_nil _) ?_
    refine sr_nil (t_end0 rfl ?_)
    refine ⟨rfl, ?_, g⟩
    rw [e]; simpa only [List.append_assoc, List.flatten_cons, List.flatten_nil, List.append_nil] using hP
  (try simp only [bsimp] at h1)
  refine sc_seq fun K5 hK5 => ?_
  refine sc_text [3, 3] ?_
  refine sr_pu rfl (fun _ => rd_eq (ev_t rfl) ev_c) ?_
  refine sr_pu rfl (fun _ => rd_assign (ev_t rfl)) ?_
  refine sr_sub [(0, _, _), (3, _, _), (5, _, _), (19, _, _)] (sub_cons rfl (sub_cons rfl (sub_cons rfl (sub_cons rfl (sub_nil _))))) ?_
  refine sr_nil (hK5 _ _ ?_)
  refine sc_cond (ev_t rfl) (fun h2 => ?_) (fun h2 => ?_)
  · replace h2 := of_decide_eq_true h2
    obtain ⟨hl, he0, he1⟩ := sh12 h2 hx
    have hE0 := ih.e (by omega) he0 hok
    have hE1 := ih.e (by omega) he1 hok
    have e := stT_12 h2 hl k
    rw [e] at hlen
    simp only [List.length_append, List.length_cons, List.length_nil, List.flatten_cons, List.flatten_nil, List.append_nil, tabsL, List.length_replicate] at hlen
    refine sc_text [3, 0, 2] ?_
    refine sr_pu rfl (fun _ => rd_move (ev_t rfl)) ?_
    refine sr_rd rfl (rd_loads agg_api_Node (ev_t rfl) rfl (fun _ => B3.row)) ?_
    refine sr_call rfl (rc_call go_syntax_printer_pair ev_f (args_cons (ev_t rfl) (args_cons (ev_t rfl) (args_cons ev_c (args_nil)))) rfl) (pair_ok [32, 61, 32] (by simp) hl hE0 hE1 hk0 hD hP (by first | omega | (simp only [List.length_append, List.length_cons, List.length_nil, List.flatten_cons, List.flatten_nil, List.append_nil, tabsL, List.length_replicate]; omega)) hc) ?_
    rintro v23 w23 ⟨rfl, hP, g23⟩
    refine ⟨fun h => absurd h (by decide), ?_⟩
    have g := g.trans g23
    replace B3 := B3.pf g23 rfl (by omega)
    have hk0 := hk0.pf g23 hD
    refine sr_sub [] (sub_nil _) ?_
    refine sr_nil (t_end0 rfl ?_)
    refine ⟨rfl, ?_, g⟩
    rw [e]; simpa only [List.append_assoc, List.flatten_cons, List.flatten_nil, List.append_nil] using hP
  (try simp only [bsimp] at h2)
  refine sc_seq fun K6 hK6 => ?_
  refine sc_text [3, 3] ?_
  refine sr_pu rfl (fun _ => rd_eq (ev_t rfl) ev_c) ?_
  refine sr_pu rfl (fun _ => rd_assign (ev_t rfl)) ?_
  refine sr_sub [(0, _, _), (3, _, _), (5, _, _), (24, _, _)] (sub_cons rfl (sub_cons rfl (sub_cons rfl (sub_cons rfl (sub_nil _))))) ?_
  refine sr_nil (hK6 _ _ ?_)
  refine sc_cond (ev_t rfl) (fun h3 => ?_) (fun h3 => ?_)
  · replace h3 := of_decide_eq_true h3
    obtain ⟨hl, he0, he1⟩ := sh16 h3 hx
    have hE0 := ih.e (by omega) he0 hok
    have hE1 := ih.e (by omega) he1 hok
    have e := stT_16 h3 hl k
    rw [e] at hlen
    simp only [List.length_append, List.length_cons, List.length_nil, List.flatten_cons, List.flatten_nil, List.append_nil, tabsL, List.length_replicate] at hlen
    refine sc_text [3, 0, 2] ?_
    refine sr_pu rfl (fun _ => rd_move (ev_t rfl)) ?_
    refine sr_rd rfl (rd_loads agg_api_Node (ev_t rfl) rfl (fun _ => B3.row)) ?_
    refine sr_call rfl (rc_call go_syntax_printer_pair ev_f (args_cons (ev_t rfl) (args_cons (ev_t rfl) (args_cons ev_c (args_nil)))) rfl) (pair_ok [32, 60, 45, 32] (by simp) hl hE0 hE1 hk0 hD hP (by first | omega | (simp only [List.length_append, List.length_cons, List.length_nil, List.flatten_cons, List.flatten_nil, List.append_nil, tabsL, List.length_replicate]; omega)) hc) ?_
    rintro v28 w28 ⟨rfl, hP, g28⟩
    refine ⟨fun h => absurd h (by decide), ?_⟩
    have g := g.trans g28
    replace B3 := B3.pf g28 rfl (by omega)
    have hk0 := hk0.pf g28 hD
    refine sr_sub [] (sub_nil _) ?_
    refine sr_nil (t_end0 rfl ?_)
    refine ⟨rfl, ?_, g⟩
    rw [e]; simpa only [List.append_assoc, List.flatten_cons, List.flatten_nil, List.append_nil] using hP
  (try simp only [bsimp] at h3)
  refine sc_seq fun K7 hK7 => ?_
  refine sc_text [3, 3] ?_
  refine sr_pu rfl (fun _ => rd_eq (ev_t rfl) ev_c) ?_
  refine sr_pu rfl (fun _ => rd_assign (ev_t rfl)) ?_
  refine sr_sub [(0, _, _), (3, _, _), (5, _, _), (29, _, _)] (sub_cons rfl (sub_cons rfl (sub_cons rfl (sub_cons rfl (sub_nil _))))) ?_
  refine sr_nil (hK7 _ _ ?_)
  refine sc_cond (ev_t rfl) (fun h4 => ?_) (fun h4 => ?_)
  · replace h4 := of_decide_eq_true h4
    obtain ⟨hl, he0⟩ := sh13 h4 hx
    have hE0 := ih.e (by omega) he0 hok
    have hc0 := count_kidAt (t := t) (i := 0) (by omega)
    have e := stT_13 h4 hl k
    rw [e] at hlen
    refine sc_text [3, 3, 0, 3, 0, 2] ?_
    refine sr_pu rfl (fun _ => rd_move (ev_t rfl)) ?_
    refine sr_pu rfl (fun _ => rd_field fo_api_Node_4 (ev_t rfl)) ?_
    refine sr_rd rfl (rd_load one_sl_api_Node (ev_t rfl) (fun _ => B3.at_ rfl)) ?_
    obtain ⟨hpe, p_34, c_34, hcell, hkid⟩ := kd_opt hk0 (i := 0) (by omega)
    refine sr_pu rfl (fun _ => rd_idxq el_sl_api_Node (ev_t rfl) ev_c (fun _ => by omega) (fun _ => hpe)) ?_
    refine sr_rd rfl (rd_loads agg_api_Node (ev_t rfl) rfl (fun _ => hcell)) ?_
    refine sr_call rfl (rc_call go_syntax_printer_expr ev_f (args_cons (ev_t rfl) (args_cons (ev_t rfl) (args_nil))) rfl) (hE0 _ _ D n0 b _ k _ hkid hD hP (by first | omega | (simp only [List.length_append, List.length_cons, List.length_nil, List.flatten_cons, List.flatten_nil, List.append_nil, tabsL, List.length_replicate]; omega)) (by omega)) ?_
    rintro v36 w36 ⟨rfl, hP, g36⟩
    refine ⟨fun h => absurd h (by decide), ?_⟩
    have g := g.trans g36
    replace B3 := B3.pf g36 rfl (by omega)
    have hk0 := hk0.pf g36 hD
    refine sr_sub [] (sub_nil _) ?_
    refine sr_nil (t_end0 rfl ?_)
    refine ⟨rfl, ?_, g⟩
    rw [e]; simpa only [List.append_assoc, List.flatten_cons, List.flatten_nil, List.append_nil] using hP
  (try simp only [bsimp] at h4)
  refine sc_seq fun K8 hK8 => ?_
  refine sc_text [3, 3] ?_
  refine sr_pu rfl (fun _ => rd_eq (ev_t rfl) ev_c) ?_
  refine sr_pu rfl (fun _ => rd_assign (ev_t rfl)) ?_
  refine sr_sub [(0, _, _), (3, _, _), (5, _, _), (37, _, _)] (sub_cons rfl (sub_cons rfl (sub_cons rfl (sub_cons rfl (sub_nil _))))) ?_
  refine sr_nil (hK8 _ _ ?_)
  refine sc_cond (ev_t rfl) (fun h5 => ?_) (fun h5 => ?_)
  · replace h5 := of_decide_eq_true h5
    obtain ⟨hl, he0⟩ := sh14 h5 hx
    have hE0 := ih.e (by omega) he0 hok
    have hc0 := count_kidAt (t := t) (i := 0) (by omega)
    have e := stT_14 h5 hl k
    rw [e] at hlen
    simp only [List.length_append, List.length_cons, List.length_nil, List.flatten_cons, List.flatten_nil, List.append_nil, tabsL, List.length_replicate] at hlen
    refine sc_seq fun K9 hK9 => ?_
    refine sc_text [3, 1, 2] ?_
    refine sr_pu rfl (fun _ => rd_move (ev_t rfl)) ?_
    refine sr_buildSlice [_] rfl el_sl_string ze_string (parts_cons ev_c (parts_nil)) rfl rfl ?_
    intro b40 w40 N40
    have x40_3 := N40.ne B3
    have l40 := newge N40 g.size
    have g := g.trans (PF.of_g (N40.g))
    replace B3 := B3.grow (N40.g)
    have hP := hP.grow (N40.g)
    have hk0 := hk0.grow (N40.g)
    try have hkid := hkid.grow (N40.g)
    have B40 := N40.blk
    refine sr_call rfl (rc_call go_syntax_printer_write ev_f (args_cons (ev_t rfl) (args_cons (ev_t rfl) (args_nil))) rfl) (write_ok [[103, 111, 32]] hP B40 (by omega) (by first | omega | (simp only [List.length_append, List.length_cons, List.length_nil, List.flatten_cons, List.flatten_nil, List.append_nil, tabsL, List.length_replicate]; omega) | (simp at hlen ⊢ <;> omega)) (by first | rfl | (simp [ht]; done) | (simpa using ht)) (Nat.le_of_ble_eq_true rfl)) ?_
    rintro v41 w41 ⟨rfl, hP, g41⟩
    refine ⟨fun h => absurd h (by decide), ?_⟩
    have g := g.trans g41
    replace B3 := B3.pf g41 rfl (by omega)
    replace B40 := B40.pf g41 rfl (by omega)
    have hk0 := hk0.pf g41 hD
    refine sr_sub [(0, _, _), (3, _, _)] (sub_cons rfl (sub_cons rfl (sub_nil _))) ?_
    refine sr_nil (hK9 _ _ ?_)
    refine sc_text [3, 3, 0, 3, 0, 2] ?_
    refine sr_pu rfl (fun _ => rd_move (ev_t rfl)) ?_
    refine sr_pu rfl (fun _ => rd_field fo_api_Node_4 (ev_t rfl)) ?_
    refine sr_rd rfl (rd_load one_sl_api_Node (ev_t rfl) (fun _ => B3.at_ rfl)) ?_
    obtain ⟨hpe, p_45, c_45, hcell, hkid⟩ := kd_opt hk0 (i := 0) (by omega)
    refine sr_pu rfl (fun _ => rd_idxq el_sl_api_Node (ev_t rfl) ev_c (fun _ => by omega) (fun _ => hpe)) ?_
    refine sr_rd rfl (rd_loads agg_api_Node (ev_t rfl) rfl (fun _ => hcell)) ?_
    refine sr_call rfl (rc_call go_syntax_printer_expr ev_f (args_cons (ev_t rfl) (args_cons (ev_t rfl) (args_nil))) rfl) (hE0 _ _ D n0 b _ k _ hkid hD hP (by first | omega | (simp only [List.length_append, List.length_cons, List.length_nil, List.flatten_cons, List.flatten_nil, List.append_nil, tabsL, List.length_replicate]; omega)) (by omega)) ?_
    rintro v47 w47 ⟨rfl, hP, g47⟩
    refine ⟨fun h => absurd h (by decide), ?_⟩
    have g := g.trans g47
    replace B3 := B3.pf g47 rfl (by omega)
    replace B40 := B40.pf g47 rfl (by omega)
    have hk0 := hk0.pf g47 hD
    refine sr_sub [] (sub_nil _) ?_
    refine sr_nil (t_end0 rfl ?_)
    refine ⟨rfl, ?_, g⟩
    rw [e]; simpa only [List.append_assoc, List.flatten_cons, List.flatten_nil, List.append_nil] using hP
  (try simp only [bsimp] at h5)
  refine sc_seq fun K10 hK10 => ?_
  refine sc_text [3, 3] ?_
  refine sr_pu rfl (fun _ => rd_eq (ev_t rfl) ev_c) ?_
  refine sr_pu rfl (fun _ => rd_assign (ev_t rfl)) ?_
  refine sr_sub [(0, _, _), (3, _, _), (5, _, _), (48, _, _)] (sub_cons rfl (sub_cons rfl (sub_cons rfl (sub_cons rfl (sub_nil _))))) ?_
  refine sr_nil (hK10 _ _ ?_)
  refine sc_cond (ev_t rfl) (fun h6 => ?_) (fun h6 => ?_)
  · replace h6 := of_decide_eq_true h6
    obtain ⟨hl, he0⟩ := sh15 h6 hx
    have hE0 := ih.e (by omega) he0 hok
    have hc0 := count_kidAt (t := t) (i := 0) (by omega)
    have e := stT_15 h6 hl k
    rw [e] at hlen
    simp only [List.length_append, List.length_cons, List.length_nil, List.flatten_cons, List.flatten_nil, List.append_nil, tabsL, List.length_replicate] at hlen
    refine sc_seq fun K11 hK11 => ?_
    refine sc_text [3, 1, 2] ?_
    refine sr_pu rfl (fun _ => rd_move (ev_t rfl)) ?_
    refine sr_buildSlice [_] rfl el_sl_string ze_string (parts_cons ev_c (parts_nil)) rfl rfl ?_
    intro b51 w51 N51
    have x51_3 := N51.ne B3
    have l51 := newge N51 g.size
    have g := g.trans (PF.of_g (N51.g))
    replace B3 := B3.grow (N51.g)
    have hP := hP.grow (N51.g)
    have hk0 := hk0.grow (N51.g)
    try have hkid := hkid.grow (N51.g)
    have B51 := N51.blk
    refine sr_call rfl (rc_call go_syntax_printer_write ev_f (args_cons (ev_t rfl) (args_cons (ev_t rfl) (args_nil))) rfl) (write_ok [[100, 101, 102, 101, 114, 32]] hP B51 (by omega) (by first | omega | (simp only [List.length_append, List.length_cons, List.length_nil, List.flatten_cons, List.flatten_nil, List.append_nil, tabsL, List.length_replicate]; omega) | (simp at hlen ⊢ <;> omega)) (by first | rfl | (simp [ht]; done) | (simpa using ht)) (Nat.le_of_ble_eq_true rfl)) ?_
    rintro v52 w52 ⟨rfl, hP, g52⟩
    refine ⟨fun h => absurd h (by decide), ?_⟩
    have g := g.trans g52
    replace B3 := B3.pf g52 rfl (by omega)
    replace B51 := B51.pf g52 rfl (by omega)
    have hk0 := hk0.pf g52 hD
    refine sr_sub [(0, _, _), (3, _, _)] (sub_cons rfl (sub_cons rfl (sub_nil _))) ?_
    refine sr_nil (hK11 _ _ ?_)
    refine sc_text [3, 3, 0, 3, 0, 2] ?_
    refine sr_pu rfl (fun _ => rd_move (ev_t rfl)) ?_
    refine sr_pu rfl (fun _ => rd_field fo_api_Node_4 (ev_t rfl)) ?_
    refine sr_rd rfl (rd_load one_sl_api_Node (ev_t rfl) (fun _ => B3.at_ rfl)) ?_
    obtain ⟨hpe, p_56, c_56, hcell, hkid⟩ := kd_opt hk0 (i := 0) (by omega)
    refine sr_pu rfl (fun _ => rd_idxq el_sl_api_Node (ev_t rfl) ev_c (fun _ => by omega) (fun _ => hpe)) ?_
    refine sr_rd rfl (rd_loads agg_api_Node (ev_t rfl) rfl (fun _ => hcell)) ?_
    refine sr_call rfl (rc_call go_syntax_printer_expr ev_f (args_cons (ev_t rfl) (args_cons (ev_t rfl) (args_nil))) rfl) (hE0 _ _ D n0 b _ k _ hkid hD hP (by first | omega | (simp only [List.length_append, List.length_cons, List.length_nil, List.flatten_cons, List.flatten_nil, List.append_nil, tabsL, List.length_replicate]; omega)) (by omega)) ?_
    rintro v58 w58 ⟨rfl, hP, g58⟩
    refine ⟨fun h => absurd h (by decide), ?_⟩
    have g := g.trans g58
    replace B3 := B3.pf g58 rfl (by omega)
    replace B51 := B51.pf g58 rfl (by omega)
    have hk0 := hk0.pf g58 hD
    refine sr_sub [] (sub_nil _) ?_
    refine sr_nil (t_end0 rfl ?_)
    refine ⟨rfl, ?_, g⟩
    rw [e]; simpa only [List.append_assoc, List.flatten_cons, List.flatten_nil, List.append_nil] using hP
  (try simp only [bsimp] at h6)
  refine sc_seq fun K12 hK12 => ?_
  refine sc_text [3, 3] ?_
  refine sr_pu rfl (fun _ => rd_eq (ev_t rfl) ev_c) ?_
  refine sr_pu rfl (fun _ => rd_assign (ev_t rfl)) ?_
  refine sr_sub [(0, _, _), (3, _, _), (5, _, _), (59, _, _)] (sub_cons rfl (sub_cons rfl (sub_cons rfl (sub_cons rfl (sub_nil _))))) ?_
  refine sr_nil (hK12 _ _ ?_)
  refine sc_cond (ev_t rfl) (fun h7 => ?_) (fun h7 => ?_)
  · replace h7 := of_decide_eq_true h7
    obtain ⟨hl, he0⟩ := sh17 h7 hx
    have hEs := ih.es (all_one hl he0) hok
    have e := stT_17 h7 hl k
    rw [e] at hlen
    simp only [List.length_append, List.length_cons, List.length_nil, List.flatten_cons, List.flatten_nil, List.append_nil, tabsL, List.length_replicate] at hlen
    refine sc_seq fun K13 hK13 => ?_
    refine sc_text [3, 1, 2] ?_
    refine sr_pu rfl (fun _ => rd_move (ev_t rfl)) ?_
    refine sr_buildSlice [_] rfl el_sl_string ze_string (parts_cons ev_c (parts_nil)) rfl rfl ?_
    intro b62 w62 N62
    have x62_3 := N62.ne B3
    have l62 := newge N62 g.size
    have g := g.trans (PF.of_g (N62.g))
    replace B3 := B3.grow (N62.g)
    have hP := hP.grow (N62.g)
    have hk0 := hk0.grow (N62.g)
    try have hkid := hkid.grow (N62.g)
    have B62 := N62.blk
    refine sr_call rfl (rc_call go_syntax_printer_write ev_f (args_cons (ev_t rfl) (args_cons (ev_t rfl) (args_nil))) rfl) (write_ok [[99, 108, 111, 115, 101, 40]] hP B62 (by omega) (by first | omega | (simp only [List.length_append, List.length_cons, List.length_nil, List.flatten_cons, List.flatten_nil, List.append_nil, tabsL, List.length_replicate]; omega) | (simp at hlen ⊢ <;> omega)) (by first | rfl | (simp [ht]; done) | (simpa using ht)) (Nat.le_of_ble_eq_true rfl)) ?_
    rintro v63 w63 ⟨rfl, hP, g63⟩
    refine ⟨fun h => absurd h (by decide), ?_⟩
    have g := g.trans g63
    replace B3 := B3.pf g63 rfl (by omega)
    replace B62 := B62.pf g63 rfl (by omega)
    have hk0 := hk0.pf g63 hD
    refine sr_sub [(0, _, _), (3, _, _)] (sub_cons rfl (sub_cons rfl (sub_nil _))) ?_
    refine sr_nil (hK13 _ _ ?_)
    refine sc_seq fun K14 hK14 => ?_
    refine sc_text [3, 3, 0, 2] ?_
    refine sr_pu rfl (fun _ => rd_move (ev_t rfl)) ?_
    refine sr_pu rfl (fun _ => rd_field fo_api_Node_4 (ev_t rfl)) ?_
    refine sr_rd rfl (rd_load one_sl_api_Node (ev_t rfl) (fun _ => B3.at_ rfl)) ?_
    refine sr_call rfl (rc_call go_syntax_printer_list ev_f (args_cons (ev_t rfl) (args_cons (ev_t rfl) (args_nil))) rfl) (list_ok hEs hk0 hD hP (by first | omega | (simp only [List.length_append, List.length_cons, List.length_nil, List.flatten_cons, List.flatten_nil, List.append_nil, tabsL, List.length_replicate]; omega)) (by omega)) ?_
    rintro v67 w67 ⟨rfl, hP, g67⟩
    refine ⟨fun h => absurd h (by decide), ?_⟩
    have g := g.trans g67
    replace B3 := B3.pf g67 rfl (by omega)
    replace B62 := B62.pf g67 rfl (by omega)
    have hk0 := hk0.pf g67 hD
    refine sr_sub [(0, _, _)] (sub_cons rfl (sub_nil _)) ?_
    refine sr_nil (hK14 _ _ ?_)
    refine sc_text [3, 1, 2] ?_
    refine sr_pu rfl (fun _ => rd_move (ev_t rfl)) ?_
    refine sr_buildSlice [_] rfl el_sl_string ze_string (parts_cons ev_c (parts_nil)) rfl rfl ?_
    intro b69 w69 N69
    have x69_3 := N69.ne B3
    have x69_62 := N69.ne B62
    have l69 := newge N69 g.size
    have g := g.trans (PF.of_g (N69.g))
    replace B3 := B3.grow (N69.g)
    replace B62 := B62.grow (N69.g)
    have hP := hP.grow (N69.g)
    have hk0 := hk0.grow (N69.g)
    try have hkid := hkid.grow (N69.g)
    have B69 := N69.blk
    refine sr_call rfl (rc_call go_syntax_printer_write ev_f (args_cons (ev_t rfl) (args_cons (ev_t rfl) (args_nil))) rfl) (write_ok [[41]] hP B69 (by omega) (by first | omega | (simp only [List.length_append, List.length_cons, List.length_nil, List.flatten_cons, List.flatten_nil, List.append_nil, tabsL, List.length_replicate]; omega) | (simp at hlen ⊢ <;> omega)) (by first | rfl | (simp [ht]; done) | (simpa using ht)) (Nat.le_of_ble_eq_true rfl)) ?_
    rintro v70 w70 ⟨rfl, hP, g70⟩
    refine ⟨fun h => absurd h (by decide), ?_⟩
    have g := g.trans g70
    replace B3 := B3.pf g70 rfl (by omega)
    replace B62 := B62.pf g70 rfl (by omega)
    replace B69 := B69.pf g70 rfl (by omega)
    have hk0 := hk0.pf g70 hD
    refine sr_sub [] (sub_nil _) ?_
    refine sr_nil (t_end0 rfl ?_)
    refine ⟨rfl, ?_, g⟩
    rw [e]; simpa only [List.append_assoc, List.flatten_cons, List.flatten_nil, List.append_nil] using hP
  (try simp only [bsimp] at h7)
  refine sc_seq fun K15 hK15 => ?_
  refine sc_text [3, 3] ?_
  refine sr_pu rfl (fun _ => rd_eq (ev_t rfl) ev_c) ?_
  refine sr_pu rfl (fun _ => rd_assign (ev_t rfl)) ?_
  refine sr_sub [(0, _, _), (3, _, _), (5, _, _), (71, _, _)] (sub_cons rfl (sub_cons rfl (sub_cons rfl (sub_cons rfl (sub_nil _))))) ?_
  refine sr_nil (hK15 _ _ ?_)
  refine sc_cond (ev_t rfl) (fun h8 => ?_) (fun h8 => ?_)
  · replace h8 := of_decide_eq_true h8
    obtain ⟨hl, he0⟩ := sh21 h8 hx
    have hEs := ih.es (all_one hl he0) hok
    have e := stT_21 h8 hl k
    rw [e] at hlen
    simp only [List.length_append, List.length_cons, List.length_nil, List.flatten_cons, List.flatten_nil, List.append_nil, tabsL, List.length_replicate] at hlen
    refine sc_seq fun K16 hK16 => ?_
    refine sc_text [3, 1, 2] ?_
    refine sr_pu rfl (fun _ => rd_move (ev_t rfl)) ?_
    refine sr_buildSlice [_] rfl el_sl_string ze_string (parts_cons ev_c (parts_nil)) rfl rfl ?_
    intro b74 w74 N74
    have x74_3 := N74.ne B3
    have l74 := newge N74 g.size
    have g := g.trans (PF.of_g (N74.g))
    replace B3 := B3.grow (N74.g)
    have hP := hP.grow (N74.g)
    have hk0 := hk0.grow (N74.g)
    try have hkid := hkid.grow (N74.g)
    have B74 := N74.blk
    refine sr_call rfl (rc_call go_syntax_printer_write ev_f (args_cons (ev_t rfl) (args_cons (ev_t rfl) (args_nil))) rfl) (write_ok [[112, 114, 105, 110, 116, 40]] hP B74 (by omega) (by first | omega | (simp only [List.length_append, List.length_cons, List.length_nil, List.flatten_cons, List.flatten_nil, List.append_nil, tabsL, List.length_replicate]; omega) | (simp at hlen ⊢ <;> omega)) (by first | rfl | (simp [ht]; done) | (simpa using ht)) (Nat.le_of_ble_eq_true rfl)) ?_
    rintro v75 w75 ⟨rfl, hP, g75⟩
    refine ⟨fun h => absurd h (by decide), ?_⟩
    have g := g.trans g75
    replace B3 := B3.pf g75 rfl (by omega)
    replace B74 := B74.pf g75 rfl (by omega)
    have hk0 := hk0.pf g75 hD
    refine sr_sub [(0, _, _), (3, _, _)] (sub_cons rfl (sub_cons rfl (sub_nil _))) ?_
    refine sr_nil (hK16 _ _ ?_)
    refine sc_seq fun K17 hK17 => ?_
    refine sc_text [3, 3, 0, 2] ?_
    refine sr_pu rfl (fun _ => rd_move (ev_t rfl)) ?_
    refine sr_pu rfl (fun _ => rd_field fo_api_Node_4 (ev_t rfl)) ?_
    refine sr_rd rfl (rd_load one_sl_api_Node (ev_t rfl) (fun _ => B3.at_ rfl)) ?_
    refine sr_call rfl (rc_call go_syntax_printer_list ev_f (args_cons (ev_t rfl) (args_cons (ev_t rfl) (args_nil))) rfl) (list_ok hEs hk0 hD hP (by first | omega | (simp only [List.length_append, List.length_cons, List.length_nil, List.flatten_cons, List.flatten_nil, List.append_nil, tabsL, List.length_replicate]; omega)) (by omega)) ?_
    rintro v79 w79 ⟨rfl, hP, g79⟩
    refine ⟨fun h => absurd h (by decide), ?_⟩
    have g := g.trans g79
    replace B3 := B3.pf g79 rfl (by omega)
    replace B74 := B74.pf g79 rfl (by omega)
    have hk0 := hk0.pf g79 hD
    refine sr_sub [(0, _, _)] (sub_cons rfl (sub_nil _)) ?_
    refine sr_nil (hK17 _ _ ?_)
    refine sc_text [3, 1, 2] ?_
    refine sr_pu rfl (fun _ => rd_move (ev_t rfl)) ?_
    refine sr_buildSlice [_] rfl el_sl_string ze_string (parts_cons ev_c (parts_nil)) rfl rfl ?_
    intro b81 w81 N81
    have x81_3 := N81.ne B3
    have x81_74 := N81.ne B74
    have l81 := newge N81 g.size
    have g := g.trans (PF.of_g (N81.g))
    replace B3 := B3.grow (N81.g)
    replace B74 := B74.grow (N81.g)
    have hP := hP.grow (N81.g)
    have hk0 := hk0.grow (N81.g)
    try have hkid := hkid.grow (N81.g)
    have B81 := N81.blk
    refine sr_call rfl (rc_call go_syntax_printer_write ev_f (args_cons (ev_t rfl) (args_cons (ev_t rfl) (args_nil))) rfl) (write_ok [[41]] hP B81 (by omega) (by first | omega | (simp only [List.length_append, List.length_cons, List.length_nil, List.flatten_cons, List.flatten_nil, List.append_nil, tabsL, List.length_replicate]; omega) | (simp at hlen ⊢ <;> omega)) (by first | rfl | (simp [ht]; done) | (simpa using ht)) (Nat.le_of_ble_eq_true rfl)) ?_
    rintro v82 w82 ⟨rfl, hP, g82⟩
    refine ⟨fun h => absurd h (by decide), ?_⟩
    have g := g.trans g82
    replace B3 := B3.pf g82 rfl (by omega)
    replace B74 := B74.pf g82 rfl (by omega)
    replace B81 := B81.pf g82 rfl (by omega)
    have hk0 := hk0.pf g82 hD
    refine sr_sub [] (sub_nil _) ?_
    refine sr_nil (t_end0 rfl ?_)
    refine ⟨rfl, ?_, g⟩
    rw [e]; simpa only [List.append_assoc, List.flatten_cons, List.flatten_nil, List.append_nil] using hP
  (try simp only [bsimp] at h8)
  refine sc_seq fun K18 hK18 => ?_
  refine sc_text [3, 3] ?_
  refine sr_pu rfl (fun _ => rd_eq (ev_t rfl) ev_c) ?_
  refine sr_pu rfl (fun _ => rd_assign (ev_t rfl)) ?_
  refine sr_sub [(0, _, _), (3, _, _), (83, _, _)] (sub_cons rfl (sub_cons rfl (sub_cons rfl (sub_nil _)))) ?_
  refine sr_nil (hK18 _ _ ?_)
  refine sc_cond (ev_t rfl) (fun h9 => ?_) (fun h9 => ?_)
  · replace h9 := of_decide_eq_true h9
    obtain ⟨hl, hes⟩ := sh20 h9 hx
    have hEs := ih.es hes hok
    have hlr : l.length + 6 < 100000000 := by
      rcases (by omega : t.kids.length = 0 ∨ t.kids.length = 1) with hz | hz
      · rw [stT_20n h9 hz k] at hlen; simpa using hlen
      · rw [stT_20 h9 hz k] at hlen; simp only [List.length_append, List.length_cons, List.length_nil, List.flatten_cons, List.flatten_nil, List.append_nil, tabsL, List.length_replicate] at hlen; omega
    refine sc_seq fun K19 hK19 => ?_
    refine sc_text [3, 1, 2] ?_
    refine sr_pu rfl (fun _ => rd_move (ev_t rfl)) ?_
    refine sr_buildSlice [_] rfl el_sl_string ze_string (parts_cons ev_c (parts_nil)) rfl rfl ?_
    intro b86 w86 N86
    have x86_3 := N86.ne B3
    have l86 := newge N86 g.size
    have g := g.trans (PF.of_g (N86.g))
    replace B3 := B3.grow (N86.g)
    have hP := hP.grow (N86.g)
    have hk0 := hk0.grow (N86.g)
    try have hkid := hkid.grow (N86.g)
    have B86 := N86.blk
    refine sr_call rfl (rc_call go_syntax_printer_write ev_f (args_cons (ev_t rfl) (args_cons (ev_t rfl) (args_nil))) rfl) (write_ok [[114, 101, 116, 117, 114, 110]] hP B86 (by omega) (by first | omega | (simp only [List.length_append, List.length_cons, List.length_nil, List.flatten_cons, List.flatten_nil, List.append_nil, tabsL, List.length_replicate]; omega) | (simp at hlen ⊢ <;> omega)) (by first | rfl | (simp [ht]; done) | (simpa using ht)) (Nat.le_of_ble_eq_true rfl)) ?_
    rintro v87 w87 ⟨rfl, hP, g87⟩
    refine ⟨fun h => absurd h (by decide), ?_⟩
    have g := g.trans g87
    replace B3 := B3.pf g87 rfl (by omega)
    replace B86 := B86.pf g87 rfl (by omega)
    have hk0 := hk0.pf g87 hD
    refine sr_sub [(0, _, _), (3, _, _)] (sub_cons rfl (sub_cons rfl (sub_nil _))) ?_
    refine sr_nil (hK19 _ _ ?_)
    refine sc_seq fun K20 hK20 => ?_
    refine sc_text [3, 0, 3, 3] ?_
    refine sr_pu rfl (fun _ => rd_field fo_api_Node_4 (ev_t rfl)) ?_
    refine sr_rd rfl (rd_load one_sl_api_Node (ev_t rfl) (fun _ => B3.at_ rfl)) ?_
    refine sr_pu rfl (fun _ => rd_len el_sl_api_Node (ev_t rfl)) ?_
    refine sr_pu rfl (fun _ => rd_gt (ev_t rfl) ev_c) ?_
    refine sr_sub [(0, _, _), (3, _, _), (91, _, _)] (sub_cons rfl (sub_cons rfl (sub_cons rfl (sub_nil _)))) ?_
    refine sr_nil (hK20 _ _ ?_)
    refine sc_cond (ev_t rfl) (fun h10 => ?_) (fun h10 => ?_)
    · replace h10 : t.kids.length = 1 := by simp only [decide_eq_true_eq] at h10; omega
      have e := stT_20 h9 h10 k
      rw [e] at hlen
      simp only [List.length_append, List.length_cons, List.length_nil, List.flatten_cons, List.flatten_nil, List.append_nil, tabsL, List.length_replicate] at hlen
      refine sc_seq fun K21 hK21 => ?_
      refine sc_text [3, 1, 2] ?_
      refine sr_pu rfl (fun _ => rd_move (ev_t rfl)) ?_
      refine sr_buildSlice [_] rfl el_sl_string ze_string (parts_cons ev_c (parts_nil)) rfl rfl ?_
      intro b93 w93 N93
      have x93_3 := N93.ne B3
      have x93_86 := N93.ne B86
      have l93 := newge N93 g.size
      have g := g.trans (PF.of_g (N93.g))
      replace B3 := B3.grow (N93.g)
      replace B86 := B86.grow (N93.g)
      have hP := hP.grow (N93.g)
      have hk0 := hk0.grow (N93.g)
      try have hkid := hkid.grow (N93.g)
      have B93 := N93.blk
      refine sr_call rfl (rc_call go_syntax_printer_write ev_f (args_cons (ev_t rfl) (args_cons (ev_t rfl) (args_nil))) rfl) (write_ok [[32]] hP B93 (by omega) (by first | omega | (simp only [List.length_append, List.length_cons, List.length_nil, List.flatten_cons, List.flatten_nil, List.append_nil, tabsL, List.length_replicate]; omega) | (simp at hlen ⊢ <;> omega)) (by first | rfl | (simp [ht]; done) | (simpa using ht)) (Nat.le_of_ble_eq_true rfl)) ?_
      rintro v94 w94 ⟨rfl, hP, g94⟩
      refine ⟨fun h => absurd h (by decide), ?_⟩
      have g := g.trans g94
      replace B3 := B3.pf g94 rfl (by omega)
      replace B86 := B86.pf g94 rfl (by omega)
      replace B93 := B93.pf g94 rfl (by omega)
      have hk0 := hk0.pf g94 hD
      refine sr_sub [(0, _, _), (3, _, _)] (sub_cons rfl (sub_cons rfl (sub_nil _))) ?_
      refine sr_nil (hK21 _ _ ?_)
      refine sc_text [3, 3, 0, 2] ?_
      refine sr_pu rfl (fun _ => rd_move (ev_t rfl)) ?_
      refine sr_pu rfl (fun _ => rd_field fo_api_Node_4 (ev_t rfl)) ?_
      refine sr_rd rfl (rd_load one_sl_api_Node (ev_t rfl) (fun _ => B3.at_ rfl)) ?_
      refine sr_call rfl (rc_call go_syntax_printer_list ev_f (args_cons (ev_t rfl) (args_cons (ev_t rfl) (args_nil))) rfl) (list_ok hEs hk0 hD hP (by first | omega | (simp only [List.length_append, List.length_cons, List.length_nil, List.flatten_cons, List.flatten_nil, List.append_nil, tabsL, List.length_replicate]; omega)) (by omega)) ?_
      rintro v98 w98 ⟨rfl, hP, g98⟩
      refine ⟨fun h => absurd h (by decide), ?_⟩
      have g := g.trans g98
      replace B3 := B3.pf g98 rfl (by omega)
      replace B86 := B86.pf g98 rfl (by omega)
      replace B93 := B93.pf g98 rfl (by omega)
      have hk0 := hk0.pf g98 hD
      refine sr_sub [] (sub_nil _) ?_
      refine sr_nil (t_end0 rfl ?_)
      refine ⟨rfl, ?_, g⟩
      rw [e]; simpa only [List.append_assoc, List.flatten_cons, List.flatten_nil, List.append_nil] using hP
    replace h10 : t.kids.length = 0 := by simp only [decide_eq_false_iff_not] at h10; omega
    have e := stT_20n h9 h10 k
    refine sc_skip (t_end0 rfl ?_)
    refine ⟨rfl, ?_, g⟩
    rw [e]; simpa only [List.append_assoc, List.flatten_cons, List.flatten_nil, List.append_nil] using hP
  (try simp only [bsimp] at h9)
  exfalso; simp only [bsimp, decide_eq_false_iff_not] at h1 h2 h3 h4 h5 h6 h7 h8 h9; omega
end Go.Rk
