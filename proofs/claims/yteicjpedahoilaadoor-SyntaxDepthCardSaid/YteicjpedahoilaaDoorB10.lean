/- Merged texts of one road: Prc, LayB, Prd, Pro. Conditions: each text's own. -/
import Derived.Test.YteicjpedahoilaaDoorB09
import Derived.Shelf.Lays
import Derived.Test.YteicjpedahoilaaDoorB02
import Derived.Shelf.Strings.Builder1
import Derived.Test.YteicjpedahoilaaDoorB06
set_option linter.unusedSimpArgs false
set_option linter.unusedVariables false
namespace Go.Rk
open Go Go.RowKit
set_option linter.unusedVariables false
theorem decX_2 {t : Nd} (h : t.kind = 2) (hf : ∀ x ∈ t.kids, fieldB x = true) (k : Nat) : pst t k = ((([116, 121, 112, 101, 32] ++ t.text ++ [32, 115, 116, 114, 117, 99, 116, 32, 123]) ++ plX t.kids pst (k + 1)) ++ ([10] ++ tabsL k)) ++ [125] := by
  rw [pst, h]; show decX t k = _
  rw [decX, h, plX_congr (f := pst) (g := fun c _ => fieldX c) (fun x hm => pst_field (sh3 (hf x hm)).1)]; rfl
theorem decX_4 {t : Nd} (h : t.kind = 4) (k : Nat) : pst t k = ((((([102, 117, 110, 99, 32] ++ t.text) ++ [40]) ++ joinX ((kidAt t 0).kids.map fieldX)) ++ [41, 32]) ++ (bif decide ((kidAt t 1).kind = 9) then [] else typeX (kidAt t 1) ++ [32])) ++ blkT (kidAt t 2) k := by
  rw [pst, h]; show decX t k = _
  rw [decX, h]; rfl
theorem decX_6 {t : Nd} (h : t.kind = 6) (hl : t.kids.length = 2) (k : Nat) : pst t k = ((([118, 97, 114, 32] ++ t.text) ++ [32]) ++ typeX (kidAt t 0)) ++ (bif decide ((kidAt t 1).kind = 9) then [] else [32, 61, 32] ++ exT (kidAt t 1) k) := by
  rw [pst, h]; show stT t k = _
  exact stT_6 h hl k
set_option maxHeartbeats 8000000 in
theorem declaration_ok {t : Nd} (ih : PBel t) (hx : (t.kind = 2 ∧ declB t = true) ∨ (t.kind = 3 ∧ fieldB t = true) ∨ (t.kind = 4 ∧ declB t = true) ∨ (t.kind = 6 ∧ varB t = true)) (hok : okNd t) : PrOk fn_syntax_printer_declaration pst t := by
  intro p c D n0 b l k w hk0 hD hP hlen hc
  have g := PF.refl n0 b w
  have hbn := hP.ge
  have hcn : count t = 1 + (t.kids.map count).sum := count_eq t
  refine ret_of_sc (m := 116) func_syntax_printer_declaration rfl rfl [(0, True, _), (1, True, _)] (sub_cons rfl (sub_cons rfl (sub_nil _))) ?_
  refine sc_seq fun K1 hK1 => ?_
  refine sc_text [1] ?_
  refine sr_box rfl (ev_t rfl) rfl ?_
  intro b3 w3 N3
  have l3 := newge N3 g.size
  have g := g.trans (PF.of_g (N3.g))
  have hP := hP.grow (N3.g)
  have hk0 := hk0.grow (N3.g)
  try have hkid := hkid.grow (N3.g)
  try have hkf := hkf.grow (N3.g)
  have B3 := N3.blk
  refine sr_sub [(0, _, _), (3, _, _)] (sub_cons rfl (sub_cons rfl (sub_nil _))) ?_
  refine sr_nil (hK1 _ _ ?_)
  refine sc_seq fun K2 hK2 => ?_
  refine sc_text [3, 0] ?_
  refine sr_pu rfl (fun _ => rd_field fo_api_Node_0 (ev_t rfl)) ?_
  refine sr_rd rfl (rd_load one_int (ev_t rfl) (fun _ => B3.at_ rfl)) ?_
  refine sr_sub [(0, _, _), (3, _, _), (7, _, _)] (sub_cons rfl (sub_cons rfl (sub_cons rfl (sub_nil _)))) ?_
  refine sr_nil (hK2 _ _ ?_)
  refine sc_block ?_
  refine sc_seq fun K3 hK3 => ?_
  refine sc_text [3, 3] ?_
  refine sr_pu rfl (fun _ => rd_eq (ev_t rfl) ev_c) ?_
  refine sr_pu rfl (fun _ => rd_assign (ev_t rfl)) ?_
  refine sr_sub [(0, _, _), (3, _, _), (7, _, _), (8, _, _)] (sub_cons rfl (sub_cons rfl (sub_cons rfl (sub_cons rfl (sub_nil _))))) ?_
  refine sr_nil (hK3 _ _ ?_)
  refine sc_cond (ev_t rfl) (fun h1 => ?_) (fun h1 => ?_)
  · replace h1 := of_decide_eq_true h1
    obtain ⟨ht, hf⟩ := dec2 h1 (hx.elim (fun h => h.2) fun h => absurd h (by omega))
    have hff := List.all_eq_true.1 hf
    have e := decX_2 h1 hff k
    rw [e] at hlen
    simp only [List.length_append, List.length_cons, List.length_nil, List.flatten_cons, List.flatten_nil, List.append_nil, tabsL, List.length_replicate] at hlen
    have hst : ∀ x ∈ t.kids, PrOk fn_syntax_printer_stmt pst x := fun x hm => (ih x (count_mem hm)).st (by unfold pstB; rw [hff x hm]; simp) (okNd_kid hok hm)
    refine sc_seq fun K4 hK4 => ?_
    refine sc_text [3, 3, 0, 1, 2] ?_
    refine sr_pu rfl (fun _ => rd_move (ev_t rfl)) ?_
    refine sr_pu rfl (fun _ => rd_field fo_api_Node_1 (ev_t rfl)) ?_
    refine sr_rd rfl (rd_load one_string (ev_t rfl) (fun _ => B3.at_ rfl)) ?_
    refine sr_buildSlice [_, _, _] rfl el_sl_string ze_string (parts_cons ev_c (parts_cons (ev_t rfl) (parts_cons ev_c (parts_nil)))) rfl rfl ?_
    intro b13 w13 N13
    have x13_3 := N13.ne B3
    have l13 := newge N13 g.size
    have g := g.trans (PF.of_g (N13.g))
    replace B3 := B3.grow (N13.g)
    have hP := hP.grow (N13.g)
    have hk0 := hk0.grow (N13.g)
    try have hkid := hkid.grow (N13.g)
    try have hkf := hkf.grow (N13.g)
    have B13 := N13.blk
    refine sr_call rfl (rc_call go_syntax_printer_write ev_f (args_cons (ev_t rfl) (args_cons (ev_t rfl) (args_nil))) rfl) (write_ok [[116, 121, 112, 101, 32], t.text, [32, 115, 116, 114, 117, 99, 116, 32, 123]] hP B13 (by omega) (by first | omega | (simp only [List.length_append, List.length_cons, List.length_nil, List.flatten_cons, List.flatten_nil, List.append_nil, tabsL, List.length_replicate]; omega) | (simp at hlen ⊢ <;> omega)) (by first | rfl | (simp [ht]; done) | (simpa using ht)) (Nat.le_of_ble_eq_true rfl)) ?_
    rintro v14 w14 ⟨rfl, hP, g14⟩
    refine ⟨fun h => absurd h (by decide), ?_⟩
    have g := g.trans g14
    replace B3 := B3.pf g14 rfl (by omega)
    replace B13 := B13.pf g14 rfl (by omega)
    have hk0 := hk0.pf g14 hD
    try have hkid := hkid.pf g14 hD
    try have hkf := hkf.pf g14 hD
    refine sr_sub [(0, _, _), (3, _, _)] (sub_cons rfl (sub_cons rfl (sub_nil _))) ?_
    refine sr_nil (hK4 _ _ ?_)
    refine sc_seq fun K5 hK5 => ?_
    refine sc_text [3, 3, 0, 2] ?_
    refine sr_pu rfl (fun _ => rd_move (ev_t rfl)) ?_
    refine sr_pu rfl (fun _ => rd_field fo_api_Node_4 (ev_t rfl)) ?_
    refine sr_rd rfl (rd_load one_sl_api_Node (ev_t rfl) (fun _ => B3.at_ rfl)) ?_
    refine sr_call rfl (rc_call go_syntax_printer_lines ev_f (args_cons (ev_t rfl) (args_cons (ev_t rfl) (args_nil))) rfl) (lines_ok hst hk0 hD hP (by first | omega | (simp only [List.length_append, List.length_cons, List.length_nil, List.flatten_cons, List.flatten_nil, List.append_nil, tabsL, List.length_replicate]; omega)) (by omega)) ?_
    rintro v18 w18 ⟨rfl, hP, g18⟩
    refine ⟨fun h => absurd h (by decide), ?_⟩
    have g := g.trans g18
    replace B3 := B3.pf g18 rfl (by omega)
    replace B13 := B13.pf g18 rfl (by omega)
    have hk0 := hk0.pf g18 hD
    try have hkid := hkid.pf g18 hD
    try have hkf := hkf.pf g18 hD
    refine sr_sub [(0, _, _)] (sub_cons rfl (sub_nil _)) ?_
    refine sr_nil (hK5 _ _ ?_)
    refine sc_seq fun K6 hK6 => ?_
    refine sc_text [3, 2] ?_
    refine sr_pu rfl (fun _ => rd_move (ev_t rfl)) ?_
    refine sr_call rfl (rc_call go_syntax_printer_line ev_f (args_cons (ev_t rfl) (args_nil)) rfl) (line_ok hP (by first | omega | (simp only [List.length_append, List.length_cons, List.length_nil, List.flatten_cons, List.flatten_nil, List.append_nil, tabsL, List.length_replicate]; omega))) ?_
    rintro v20 w20 ⟨rfl, hP, g20⟩
    refine ⟨fun h => absurd h (by decide), ?_⟩
    have g := g.trans g20
    replace B3 := B3.pf g20 rfl (by omega)
    replace B13 := B13.pf g20 rfl (by omega)
    have hk0 := hk0.pf g20 hD
    try have hkid := hkid.pf g20 hD
    try have hkf := hkf.pf g20 hD
    refine sr_sub [(0, _, _)] (sub_cons rfl (sub_nil _)) ?_
    refine sr_nil (hK6 _ _ ?_)
    refine sc_text [3, 1, 2] ?_
    refine sr_pu rfl (fun _ => rd_move (ev_t rfl)) ?_
    refine sr_buildSlice [_] rfl el_sl_string ze_string (parts_cons ev_c (parts_nil)) rfl rfl ?_
    intro b22 w22 N22
    have x22_3 := N22.ne B3
    have x22_13 := N22.ne B13
    have l22 := newge N22 g.size
    have g := g.trans (PF.of_g (N22.g))
    replace B3 := B3.grow (N22.g)
    replace B13 := B13.grow (N22.g)
    have hP := hP.grow (N22.g)
    have hk0 := hk0.grow (N22.g)
    try have hkid := hkid.grow (N22.g)
    try have hkf := hkf.grow (N22.g)
    have B22 := N22.blk
    refine sr_call rfl (rc_call go_syntax_printer_write ev_f (args_cons (ev_t rfl) (args_cons (ev_t rfl) (args_nil))) rfl) (write_ok [[125]] hP B22 (by omega) (by first | omega | (simp only [List.length_append, List.length_cons, List.length_nil, List.flatten_cons, List.flatten_nil, List.append_nil, tabsL, List.length_replicate]; omega) | (simp at hlen ⊢ <;> omega)) (by first | rfl | (simp [ht]; done) | (simpa using ht)) (Nat.le_of_ble_eq_true rfl)) ?_
    rintro v23 w23 ⟨rfl, hP, g23⟩
    refine ⟨fun h => absurd h (by decide), ?_⟩
    have g := g.trans g23
    replace B3 := B3.pf g23 rfl (by omega)
    replace B13 := B13.pf g23 rfl (by omega)
    replace B22 := B22.pf g23 rfl (by omega)
    have hk0 := hk0.pf g23 hD
    try have hkid := hkid.pf g23 hD
    try have hkf := hkf.pf g23 hD
    refine sr_sub [] (sub_nil _) ?_
    refine sr_nil (t_end0 rfl ?_)
    refine ⟨rfl, ?_, g⟩
    rw [e]; simpa only [List.append_assoc, List.flatten_cons, List.flatten_nil, List.append_nil] using hP
  (try simp only [bsimp] at h1)
  refine sc_seq fun K7 hK7 => ?_
  refine sc_text [3, 3] ?_
  refine sr_pu rfl (fun _ => rd_eq (ev_t rfl) ev_c) ?_
  refine sr_pu rfl (fun _ => rd_assign (ev_t rfl)) ?_
  refine sr_sub [(0, _, _), (3, _, _), (7, _, _), (24, _, _)] (sub_cons rfl (sub_cons rfl (sub_cons rfl (sub_cons rfl (sub_nil _))))) ?_
  refine sr_nil (hK7 _ _ ?_)
  refine sc_cond (ev_t rfl) (fun h2 => ?_) (fun h2 => ?_)
  · replace h2 := of_decide_eq_true h2
    obtain ⟨_, ht, hl, hty⟩ := sh3 (hx.elim (fun h => absurd h.1 (by omega)) fun h => h.elim (fun h => h.2) fun h => absurd h (by omega))
    have e : pst t k = (t.text ++ [32]) ++ typeX (kidAt t 0) := by rw [pst_field h2]; rfl
    rw [e] at hlen
    simp only [List.length_append, List.length_cons, List.length_nil, List.flatten_cons, List.flatten_nil, List.append_nil, tabsL, List.length_replicate] at hlen
    refine sc_seq fun K8 hK8 => ?_
    refine sc_text [3, 3, 0, 1, 2] ?_
    refine sr_pu rfl (fun _ => rd_move (ev_t rfl)) ?_
    refine sr_pu rfl (fun _ => rd_field fo_api_Node_1 (ev_t rfl)) ?_
    refine sr_rd rfl (rd_load one_string (ev_t rfl) (fun _ => B3.at_ rfl)) ?_
    refine sr_buildSlice [_, _] rfl el_sl_string ze_string (parts_cons (ev_t rfl) (parts_cons ev_c (parts_nil))) rfl rfl ?_
    intro b29 w29 N29
    have x29_3 := N29.ne B3
    have l29 := newge N29 g.size
    have g := g.trans (PF.of_g (N29.g))
    replace B3 := B3.grow (N29.g)
    have hP := hP.grow (N29.g)
    have hk0 := hk0.grow (N29.g)
    try have hkid := hkid.grow (N29.g)
    try have hkf := hkf.grow (N29.g)
    have B29 := N29.blk
    refine sr_call rfl (rc_call go_syntax_printer_write ev_f (args_cons (ev_t rfl) (args_cons (ev_t rfl) (args_nil))) rfl) (write_ok [t.text, [32]] hP B29 (by omega) (by first | omega | (simp only [List.length_append, List.length_cons, List.length_nil, List.flatten_cons, List.flatten_nil, List.append_nil, tabsL, List.length_replicate]; omega) | (simp at hlen ⊢ <;> omega)) (by first | rfl | (simp [ht]; done) | (simpa using ht)) (Nat.le_of_ble_eq_true rfl)) ?_
    rintro v30 w30 ⟨rfl, hP, g30⟩
    refine ⟨fun h => absurd h (by decide), ?_⟩
    have g := g.trans g30
    replace B3 := B3.pf g30 rfl (by omega)
    replace B29 := B29.pf g30 rfl (by omega)
    have hk0 := hk0.pf g30 hD
    try have hkid := hkid.pf g30 hD
    try have hkf := hkf.pf g30 hD
    refine sr_sub [(0, _, _), (3, _, _)] (sub_cons rfl (sub_cons rfl (sub_nil _))) ?_
    refine sr_nil (hK8 _ _ ?_)
    refine sc_text [3, 3, 0, 3, 0, 2] ?_
    refine sr_pu rfl (fun _ => rd_move (ev_t rfl)) ?_
    refine sr_pu rfl (fun _ => rd_field fo_api_Node_4 (ev_t rfl)) ?_
    refine sr_rd rfl (rd_load one_sl_api_Node (ev_t rfl) (fun _ => B3.at_ rfl)) ?_
    obtain ⟨hpe, p_34, c_34, hcell, hkid⟩ := kd_opt hk0 (i := 0) (by omega)
    refine sr_pu rfl (fun _ => rd_idxq el_sl_api_Node (ev_t rfl) ev_c (fun _ => by omega) (fun _ => hpe)) ?_
    refine sr_rd rfl (rd_loads agg_api_Node (ev_t rfl) rfl (fun _ => hcell)) ?_
    refine sr_call rfl (rc_call go_syntax_printer_typ ev_f (args_cons (ev_t rfl) (args_cons (ev_t rfl) (args_nil))) rfl) (typ_ok _ _ hP (typ_ne hty) (by first | omega | (simp only [List.length_append, List.length_cons, List.length_nil, List.flatten_cons, List.flatten_nil, List.append_nil, tabsL, List.length_replicate]; omega)) ⟨_, _, rfl⟩) ?_
    rintro v36 w36 ⟨rfl, hP, g36⟩
    refine ⟨fun h => absurd h (by decide), ?_⟩
    have g := g.trans g36
    replace B3 := B3.pf g36 rfl (by omega)
    replace B29 := B29.pf g36 rfl (by omega)
    have hk0 := hk0.pf g36 hD
    try have hkid := hkid.pf g36 hD
    try have hkf := hkf.pf g36 hD
    refine sr_sub [] (sub_nil _) ?_
    refine sr_nil (t_end0 rfl ?_)
    refine ⟨rfl, ?_, g⟩
    rw [e]; simpa only [List.append_assoc, List.flatten_cons, List.flatten_nil, List.append_nil] using hP
  (try simp only [bsimp] at h2)
  refine sc_seq fun K9 hK9 => ?_
  refine sc_text [3, 3] ?_
  refine sr_pu rfl (fun _ => rd_eq (ev_t rfl) ev_c) ?_
  refine sr_pu rfl (fun _ => rd_assign (ev_t rfl)) ?_
  refine sr_sub [(0, _, _), (3, _, _), (7, _, _), (37, _, _)] (sub_cons rfl (sub_cons rfl (sub_cons rfl (sub_cons rfl (sub_nil _))))) ?_
  refine sr_nil (hK9 _ _ ?_)
  refine sc_cond (ev_t rfl) (fun h3 => ?_) (fun h3 => ?_)
  · replace h3 := of_decide_eq_true h3
    obtain ⟨ht, hl, hf, htn, hb2⟩ := dec4 h3 (hx.elim (fun h => absurd h.1 (by omega)) fun h => h.elim (fun h => absurd h.1 (by omega)) fun h => h.elim (fun h => h.2) fun h => absurd h (by omega))
    have hff := List.all_eq_true.1 hf
    have hc0 := count_kidAt (t := t) (i := 0) (by omega)
    have hc2 := count_kidAt (t := t) (i := 2) (by omega)
    have hcn0 : count (kidAt t 0) = 1 + ((kidAt t 0).kids.map count).sum := count_eq _
    have hls := length_le_sum (kidAt t 0).kids
    have hB2 := ih.b (by omega) hb2 hok
    have e := decX_4 h3 k
    rw [e] at hlen
    simp only [List.length_append, List.length_cons, List.length_nil, List.flatten_cons, List.flatten_nil, List.append_nil, tabsL, List.length_replicate] at hlen
    have hst : ∀ x ∈ (kidAt t 0).kids, PrOk fn_syntax_printer_stmt pst x := fun x hm => (ih x (Nat.lt_trans (count_mem hm) hc0)).st (by unfold pstB; rw [hff x hm]; simp) (okNd_kid (okNd_kidAt' hok (by omega)) hm)
    refine sc_seq fun K10 hK10 => ?_
    refine sc_text [3, 3, 0, 1, 2] ?_
    refine sr_pu rfl (fun _ => rd_move (ev_t rfl)) ?_
    refine sr_pu rfl (fun _ => rd_field fo_api_Node_1 (ev_t rfl)) ?_
    refine sr_rd rfl (rd_load one_string (ev_t rfl) (fun _ => B3.at_ rfl)) ?_
    refine sr_buildSlice [_, _, _] rfl el_sl_string ze_string (parts_cons ev_c (parts_cons (ev_t rfl) (parts_cons ev_c (parts_nil)))) rfl rfl ?_
    intro b42 w42 N42
    have x42_3 := N42.ne B3
    have l42 := newge N42 g.size
    have g := g.trans (PF.of_g (N42.g))
    replace B3 := B3.grow (N42.g)
    have hP := hP.grow (N42.g)
    have hk0 := hk0.grow (N42.g)
    try have hkid := hkid.grow (N42.g)
    try have hkf := hkf.grow (N42.g)
    have B42 := N42.blk
    refine sr_call rfl (rc_call go_syntax_printer_write ev_f (args_cons (ev_t rfl) (args_cons (ev_t rfl) (args_nil))) rfl) (write_ok [[102, 117, 110, 99, 32], t.text, [40]] hP B42 (by omega) (by first | omega | (simp only [List.length_append, List.length_cons, List.length_nil, List.flatten_cons, List.flatten_nil, List.append_nil, tabsL, List.length_replicate]; omega) | (simp at hlen ⊢ <;> omega)) (by first | rfl | (simp [ht]; done) | (simpa using ht)) (Nat.le_of_ble_eq_true rfl)) ?_
    rintro v43 w43 ⟨rfl, hP, g43⟩
    refine ⟨fun h => absurd h (by decide), ?_⟩
    have g := g.trans g43
    replace B3 := B3.pf g43 rfl (by omega)
    replace B42 := B42.pf g43 rfl (by omega)
    have hk0 := hk0.pf g43 hD
    try have hkid := hkid.pf g43 hD
    try have hkf := hkf.pf g43 hD
    refine sr_sub [(0, _, _), (3, _, _)] (sub_cons rfl (sub_cons rfl (sub_nil _))) ?_
    refine sr_nil (hK10 _ _ ?_)
    refine sc_seq fun K11 hK11 => ?_
    refine sc_seq fun K12 hK12 => ?_
    refine sc_text [3, 0, 3, 3, 0, 3, 3] ?_
    refine sr_pu rfl (fun _ => rd_field fo_api_Node_4 (ev_t rfl)) ?_
    refine sr_rd rfl (rd_load one_sl_api_Node (ev_t rfl) (fun _ => B3.at_ rfl)) ?_
    obtain ⟨hpe, p_46, c_46, hcell, hkid⟩ := kd_opt hk0 (i := 0) (by omega)
    refine sr_pu rfl (fun _ => rd_idxq el_sl_api_Node (ev_t rfl) ev_c (fun _ => by omega) (fun _ => hpe)) ?_
    refine sr_pu rfl (fun _ => rd_field fo_api_Node_4 (ev_t rfl)) ?_
    refine sr_rd rfl (rd_load one_sl_api_Node (ev_t rfl) (fun _ => hcell 4 _ rfl)) ?_
    refine sr_pu rfl (fun _ => rd_len el_sl_api_Node (ev_t rfl)) ?_
    refine sr_pu rfl (fun _ => rd_move ev_c) ?_
    refine sr_sub [(0, _, _), (3, _, _), (48, _, _), (49, _, _), (50, _, _)] (sub_cons rfl (sub_cons rfl (sub_cons rfl (sub_cons rfl (sub_cons rfl (sub_nil _)))))) ?_
    refine sr_nil (hK12 _ _ ?_)
    refine sc_block ?_
    refine sc_loop2 (fun (i : Nat) u1 => (i ≤ (kidAt t 0).kids.length ∧ Prn n0 b (l ++ (([102, 117, 110, 99, 32] ++ t.text) ++ [40]) ++ joinX (((kidAt t 0).kids.take i).map fieldX)) k u1 ∧ Kd u1 D t.kids (.slice p t.kids.length c) ∧ Kd u1 D (kidAt t 0).kids (.slice p_46 (kidAt t 0).kids.length c_46)) ∧ PF n0 b w43 u1) [(0, True, _), (3, True, _), (48, True, _), (49, True, _)] (fun (i : Nat) => [(50, True, .int .i64 i)]) (fun (i : Nat) => (kidAt t 0).kids.length - i) (0) ⟨⟨Nat.zero_le _, by simpa [joinX] using hP, hk0, hkid⟩, PF.refl _ _ _⟩ (sub_cons rfl (sub_cons rfl (sub_cons rfl (sub_cons rfl (sub_cons rfl (sub_nil _)))))) ?_
    rintro i u1 ⟨hI1, gl1⟩
    have g := g.trans gl1
    replace B3 := B3.pf gl1 rfl (by omega)
    obtain ⟨hi, hP, hk0, hkf⟩ := hI1
    refine sc_seq fun K13 hK13 => ?_
    refine sc_text [3] ?_
    refine sr_pu rfl (fun _ => rd_lt (ev_t rfl) (ev_t rfl)) ?_
    refine sr_nil (hK13 _ _ ?_)
    refine sc_sub [(0, _, _), (3, _, _), (48, _, _), (49, _, _), (50, _, _), (51, _, _)] (sub_cons rfl (sub_cons rfl (sub_cons rfl (sub_cons rfl (sub_cons rfl (sub_cons rfl (sub_nil _))))))) ?_
    refine sc_seq fun K14 hK14 => ?_
    refine sc_cond (ev_t rfl) (fun h4 => ?_) (fun h4 => ?_)
    · replace h4 : i < (kidAt t 0).kids.length := by simp only [decide_eq_true_eq] at h4; omega
      obtain ⟨_, _, hpe, _, hks⟩ := id hkf
      obtain ⟨b9, o9, rfl, hD9, xs, hR, hX⟩ := hks (by omega)
      injection hpe with hpe _ hce
      subst hpe hce
      obtain ⟨p9, c9, hcell, hkid⟩ := kd_at hR hX h4
      have hjs := joinX_snoc fieldX ((kidAt t 0).kids.take i) (kidAt t 0).kids[i]
      rw [← take_step h4, show ((kidAt t 0).kids.take i).length = i by rw [List.length_take]; omega] at hjs
      have hjl := joinX_le fieldX (kidAt t 0).kids (i + 1)
      rw [hjs] at hjl
      have hcs := sum_le (kidAt t 0).kids h4
      have hpf : pst (kidAt t 0).kids[i] k = fieldX (kidAt t 0).kids[i] := by rw [pst_field (sh3 (hff _ (List.getElem_mem h4))).1]
      refine sc_skip (hK14 _ _ ?_)
      refine sc_sub [(0, _, _), (3, _, _), (48, _, _), (49, _, _), (50, _, _)] (sub_cons rfl (sub_cons rfl (sub_cons rfl (sub_cons rfl (sub_cons rfl (sub_nil _)))))) ?_
      refine sc_seq fun K15 hK15 => ?_
      refine sc_block ?_
      refine sc_seq fun K16 hK16 => ?_
      refine sc_text [3, 3, 0, 1, 3, 2] ?_
      refine sr_pu rfl (fun _ => rd_move (ev_t rfl)) ?_
      refine sr_pu rfl (fun _ => rd_idx el_sl_api_Node (ev_t rfl) (ev_t rfl) (fun _ => by omega)) ?_
      refine sr_rd rfl (rd_loads agg_api_Node (ev_t rfl) rfl (fun _ => hcell)) ?_
      refine sr_alloc rfl ze_api_Node rfl ?_
      intro b5 w5 N5
      have x5_3 := N5.ne B3
      have l5 := newge N5 g.size
      try have l5_gl1 := newge N5 gl1.size
      have g := g.trans (PF.of_g (N5.g))
      try have gl1 := gl1.trans (PF.of_g (N5.g))
      replace B3 := B3.grow (N5.g)
      have hP := hP.grow (N5.g)
      have hk0 := hk0.grow (N5.g)
      try have hkid := hkid.grow (N5.g)
      try have hkf := hkf.grow (N5.g)
      have B5 := N5.blk
      refine sr_pu rfl (fun _ => rd_assign (ev_t rfl)) ?_
      refine sr_store_all rfl sz_api_Node (ev_t rfl) (ev_t rfl) rfl rfl B5 rfl rfl ?_
      intro wS1 hgS1 hzS1
      have C5 := B5
      clear B5
      intro B5
      replace B3 := B3.keep hgS1 (by intro h; injection h with h; first | exact x5_3 h.symm | exact x3_5 h | omega)
      have g := pf_only g hgS1 (by omega)
      first | replace gl1 := pf_only gl1 hgS1 (by omega) | clear gl1 | skip
      have hP := hP.keep hgS1 C5 rfl (by omega) (by omega)
      have hk0 := hk0.st hgS1 hD (by omega)
      have hkf := hkf.st hgS1 hD (by omega)
      have hkid := hkid.st hgS1 hD (by omega)
      refine sr_sub [(0, _, _), (3, _, _), (4, _, _), (5, _, _), (48, _, _), (49, _, _), (50, _, _)] (sub_cons rfl (sub_cons rfl (sub_cons rfl (sub_cons rfl (sub_cons rfl (sub_cons rfl (sub_cons rfl (sub_nil _)))))))) ?_
      refine sr_nil (hK16 _ _ ?_)
      refine sc_seq fun K17 hK17 => ?_
      refine sc_seq fun K18 hK18 => ?_
      refine sc_text [3, 3] ?_
      refine sr_pu rfl (fun _ => rd_move (ev_t rfl)) ?_
      refine sr_pu rfl (fun _ => rd_gt (ev_t rfl) ev_c) ?_
      refine sr_sub [(0, _, _), (3, _, _), (5, _, _), (48, _, _), (49, _, _), (50, _, _), (56, _, _)] (sub_cons rfl (sub_cons rfl (sub_cons rfl (sub_cons rfl (sub_cons rfl (sub_cons rfl (sub_cons rfl (sub_nil _)))))))) ?_
      refine sr_nil (hK18 _ _ ?_)
      refine sc_cond (ev_t rfl) (fun h5 => ?_) (fun h5 => ?_)
      · rw [h5, cond_true] at hjs hjl
        simp only [List.length_append, List.length_cons, List.length_nil, List.flatten_cons, List.flatten_nil, List.append_nil, tabsL, List.length_replicate] at hjl
        refine sc_text [3, 1, 2] ?_
        refine sr_pu rfl (fun _ => rd_move (ev_t rfl)) ?_
        refine sr_buildSlice [_] rfl el_sl_string ze_string (parts_cons ev_c (parts_nil)) rfl rfl ?_
        intro b58 w58 N58
        have x58_3 := N58.ne B3
        have x58_5 := N58.ne B5
        have l58 := newge N58 g.size
        try have l58_gl1 := newge N58 gl1.size
        have g := g.trans (PF.of_g (N58.g))
        try have gl1 := gl1.trans (PF.of_g (N58.g))
        replace B3 := B3.grow (N58.g)
        replace B5 := B5.grow (N58.g)
        have hP := hP.grow (N58.g)
        have hk0 := hk0.grow (N58.g)
        try have hkid := hkid.grow (N58.g)
        try have hkf := hkf.grow (N58.g)
        have B58 := N58.blk
        refine sr_call rfl (rc_call go_syntax_printer_write ev_f (args_cons (ev_t rfl) (args_cons (ev_t rfl) (args_nil))) rfl) (write_ok [[44, 32]] hP B58 (by omega) (by first | omega | (simp only [List.length_append, List.length_cons, List.length_nil, List.flatten_cons, List.flatten_nil, List.append_nil, tabsL, List.length_replicate]; omega) | (simp at hlen ⊢ <;> omega)) (by first | rfl | (simp [ht]; done) | (simpa using ht)) (Nat.le_of_ble_eq_true rfl)) ?_
        rintro v59 w59 ⟨rfl, hP, g59⟩
        refine ⟨fun h => absurd h (by decide), ?_⟩
        have g := g.trans g59
        try have gl1 := gl1.trans g59
        replace B3 := B3.pf g59 rfl (by omega)
        replace B5 := B5.pf g59 rfl (by omega)
        replace B58 := B58.pf g59 rfl (by omega)
        have hk0 := hk0.pf g59 hD
        try have hkid := hkid.pf g59 hD
        try have hkf := hkf.pf g59 hD
        refine sr_sub [(0, _, _), (3, _, _), (5, _, _), (48, _, _), (49, _, _), (50, _, _)] (sub_cons rfl (sub_cons rfl (sub_cons rfl (sub_cons rfl (sub_cons rfl (sub_cons rfl (sub_nil _))))))) ?_
        refine sr_nil (hK17 _ _ ?_)
        refine sc_text [3, 0, 2] ?_
        refine sr_pu rfl (fun _ => rd_move (ev_t rfl)) ?_
        refine sr_rd rfl (rd_loads agg_api_Node (ev_t rfl) rfl (fun _ => B5.row)) ?_
        refine sr_call rfl (rc_call go_syntax_printer_stmt ev_f (args_cons (ev_t rfl) (args_cons (ev_t rfl) (args_nil))) rfl) (hst (kidAt t 0).kids[i] (List.getElem_mem h4) _ _ D n0 b _ k _ hkid hD hP (by rw [hpf]; simp only [List.length_append, List.length_cons, List.length_nil, List.flatten_cons, List.flatten_nil, List.append_nil, tabsL, List.length_replicate]; omega) (by omega)) ?_
        rintro v62 w62 ⟨rfl, hP, g62⟩
        refine ⟨fun h => absurd h (by decide), ?_⟩
        have g := g.trans g62
        try have gl1 := gl1.trans g62
        replace B3 := B3.pf g62 rfl (by omega)
        replace B5 := B5.pf g62 rfl (by omega)
        replace B58 := B58.pf g62 rfl (by omega)
        have hk0 := hk0.pf g62 hD
        try have hkid := hkid.pf g62 hD
        try have hkf := hkf.pf g62 hD
        refine sr_sub [(0, _, _), (3, _, _), (48, _, _), (49, _, _), (50, _, _)] (sub_cons rfl (sub_cons rfl (sub_cons rfl (sub_cons rfl (sub_cons rfl (sub_nil _)))))) ?_
        refine sr_nil (hK15 _ _ ?_)
        refine sc_text [3, 3] ?_
        refine sr_pu rfl (fun _ => rd_add (ev_t rfl) ev_c (fun _ => by omega)) ?_
        refine sr_pu rfl (fun _ => rd_move (ev_t rfl)) ?_
        refine sr_sub [(50, _, _), (0, _, _), (3, _, _), (48, _, _), (49, _, _)] (sub_cons rfl (sub_cons rfl (sub_cons rfl (sub_cons rfl (sub_cons rfl (sub_nil _)))))) ?_
        refine sr_nil (fun a ha => ?_)
        refine ⟨i + 1, ha, ⟨⟨h4, ?_, hk0, hkf⟩, gl1⟩, by omega⟩
        rw [hpf] at hP
        rw [hjs]; simpa only [List.append_assoc, List.flatten_cons, List.flatten_nil, List.append_nil] using hP
      rw [h5, cond_false, List.append_nil] at hjs hjl
      simp only [List.length_append, List.length_cons, List.length_nil, List.flatten_cons, List.flatten_nil, List.append_nil, tabsL, List.length_replicate] at hjl
      refine sc_skip (hK17 _ _ ?_)
      refine sc_sub [(0, _, _), (3, _, _), (5, _, _), (48, _, _), (49, _, _), (50, _, _)] (sub_cons rfl (sub_cons rfl (sub_cons rfl (sub_cons rfl (sub_cons rfl (sub_cons rfl (sub_nil _))))))) ?_
      refine sc_text [3, 0, 2] ?_
      refine sr_pu rfl (fun _ => rd_move (ev_t rfl)) ?_
      refine sr_rd rfl (rd_loads agg_api_Node (ev_t rfl) rfl (fun _ => B5.row)) ?_
      refine sr_call rfl (rc_call go_syntax_printer_stmt ev_f (args_cons (ev_t rfl) (args_cons (ev_t rfl) (args_nil))) rfl) (hst (kidAt t 0).kids[i] (List.getElem_mem h4) _ _ D n0 b _ k _ hkid hD hP (by rw [hpf]; simp only [List.length_append, List.length_cons, List.length_nil, List.flatten_cons, List.flatten_nil, List.append_nil, tabsL, List.length_replicate]; omega) (by omega)) ?_
      rintro v62 w62 ⟨rfl, hP, g62⟩
      refine ⟨fun h => absurd h (by decide), ?_⟩
      have g := g.trans g62
      try have gl1 := gl1.trans g62
      replace B3 := B3.pf g62 rfl (by omega)
      replace B5 := B5.pf g62 rfl (by omega)
      have hk0 := hk0.pf g62 hD
      try have hkid := hkid.pf g62 hD
      try have hkf := hkf.pf g62 hD
      refine sr_sub [(0, _, _), (3, _, _), (48, _, _), (49, _, _), (50, _, _)] (sub_cons rfl (sub_cons rfl (sub_cons rfl (sub_cons rfl (sub_cons rfl (sub_nil _)))))) ?_
      refine sr_nil (hK15 _ _ ?_)
      refine sc_text [3, 3] ?_
      refine sr_pu rfl (fun _ => rd_add (ev_t rfl) ev_c (fun _ => by omega)) ?_
      refine sr_pu rfl (fun _ => rd_move (ev_t rfl)) ?_
      refine sr_sub [(50, _, _), (0, _, _), (3, _, _), (48, _, _), (49, _, _)] (sub_cons rfl (sub_cons rfl (sub_cons rfl (sub_cons rfl (sub_cons rfl (sub_nil _)))))) ?_
      refine sr_nil (fun a ha => ?_)
      refine ⟨i + 1, ha, ⟨⟨h4, ?_, hk0, hkf⟩, gl1⟩, by omega⟩
      rw [hpf] at hP
      rw [hjs]; simpa only [List.append_assoc, List.flatten_cons, List.flatten_nil, List.append_nil] using hP
    replace h4 : i = (kidAt t 0).kids.length := by simp only [decide_eq_false_iff_not] at h4; omega
    rw [h4, List.take_length] at hP
    refine sc_exit rfl (hK11 _ _ ?_)
    refine sc_sub [(0, _, _), (3, _, _)] (sub_cons rfl (sub_cons rfl (sub_nil _))) ?_
    refine sc_seq fun K19 hK19 => ?_
    refine sc_text [3, 1, 2] ?_
    refine sr_pu rfl (fun _ => rd_move (ev_t rfl)) ?_
    refine sr_buildSlice [_] rfl el_sl_string ze_string (parts_cons ev_c (parts_nil)) rfl rfl ?_
    intro b65 w65 N65
    have x65_3 := N65.ne B3
    have l65 := newge N65 g.size
    try have l65_gl1 := newge N65 gl1.size
    have g := g.trans (PF.of_g (N65.g))
    try have gl1 := gl1.trans (PF.of_g (N65.g))
    replace B3 := B3.grow (N65.g)
    have hP := hP.grow (N65.g)
    have hk0 := hk0.grow (N65.g)
    try have hkid := hkid.grow (N65.g)
    try have hkf := hkf.grow (N65.g)
    have B65 := N65.blk
    refine sr_call rfl (rc_call go_syntax_printer_write ev_f (args_cons (ev_t rfl) (args_cons (ev_t rfl) (args_nil))) rfl) (write_ok [[41, 32]] hP B65 (by omega) (by first | omega | (simp only [List.length_append, List.length_cons, List.length_nil, List.flatten_cons, List.flatten_nil, List.append_nil, tabsL, List.length_replicate]; omega) | (simp at hlen ⊢ <;> omega)) (by first | rfl | (simp [ht]; done) | (simpa using ht)) (Nat.le_of_ble_eq_true rfl)) ?_
    rintro v66 w66 ⟨rfl, hP, g66⟩
    refine ⟨fun h => absurd h (by decide), ?_⟩
    have g := g.trans g66
    try have gl1 := gl1.trans g66
    replace B3 := B3.pf g66 rfl (by omega)
    replace B65 := B65.pf g66 rfl (by omega)
    have hk0 := hk0.pf g66 hD
    try have hkid := hkid.pf g66 hD
    try have hkf := hkf.pf g66 hD
    refine sr_sub [(0, _, _), (3, _, _), (64, _, _), (65, _, _)] (sub_cons rfl (sub_cons rfl (sub_cons rfl (sub_cons rfl (sub_nil _))))) ?_
    refine sr_nil (hK19 _ _ ?_)
    refine sc_seq fun K20 hK20 => ?_
    refine sc_seq fun K21 hK21 => ?_
    refine sc_text [3, 0, 3, 3, 0, 3] ?_
    refine sr_pu rfl (fun _ => rd_field fo_api_Node_4 (ev_t rfl)) ?_
    refine sr_rd rfl (rd_load one_sl_api_Node (ev_t rfl) (fun _ => B3.at_ rfl)) ?_
    obtain ⟨hpe, p_69, c_69, hcell, hkid⟩ := kd_opt hk0 (i := 1) (by omega)
    refine sr_pu rfl (fun _ => rd_idxq el_sl_api_Node (ev_t rfl) ev_c (fun _ => by omega) (fun _ => hpe)) ?_
    refine sr_pu rfl (fun _ => rd_field fo_api_Node_0 (ev_t rfl)) ?_
    refine sr_rd rfl (rd_load one_int (ev_t rfl) (fun _ => hcell 0 _ rfl)) ?_
    refine sr_pu rfl (fun _ => rd_ne (ev_t rfl) ev_c) ?_
    refine sr_nil (hK21 _ _ ?_)
    refine sc_cond (ev_t rfl) (fun h6 => ?_) (fun h6 => ?_)
    · replace h6 : decide ((kidAt t 1).kind = 9) = false := by simpa using h6
      have hty := htn.resolve_left fun h => absurd (none_of h).1 (of_decide_eq_false h6)
      rw [h6, cond_false] at e hlen
      simp only [List.length_append, List.length_cons, List.length_nil, List.flatten_cons, List.flatten_nil, List.append_nil, tabsL, List.length_replicate] at hlen
      refine sc_seq fun K22 hK22 => ?_
      refine sc_text [3, 3, 0, 3, 0, 2] ?_
      refine sr_pu rfl (fun _ => rd_move (ev_t rfl)) ?_
      refine sr_pu rfl (fun _ => rd_field fo_api_Node_4 (ev_t rfl)) ?_
      refine sr_rd rfl (rd_load one_sl_api_Node (ev_t rfl) (fun _ => B3.at_ rfl)) ?_
      obtain ⟨hpe, p_76, c_76, hcell, hkid⟩ := kd_opt hk0 (i := 1) (by omega)
      refine sr_pu rfl (fun _ => rd_idxq el_sl_api_Node (ev_t rfl) ev_c (fun _ => by omega) (fun _ => hpe)) ?_
      refine sr_rd rfl (rd_loads agg_api_Node (ev_t rfl) rfl (fun _ => hcell)) ?_
      refine sr_call rfl (rc_call go_syntax_printer_typ ev_f (args_cons (ev_t rfl) (args_cons (ev_t rfl) (args_nil))) rfl) (typ_ok _ _ hP (typ_ne hty) (by first | omega | (simp only [List.length_append, List.length_cons, List.length_nil, List.flatten_cons, List.flatten_nil, List.append_nil, tabsL, List.length_replicate]; omega)) ⟨_, _, rfl⟩) ?_
      rintro v78 w78 ⟨rfl, hP, g78⟩
      refine ⟨fun h => absurd h (by decide), ?_⟩
      have g := g.trans g78
      try have gl1 := gl1.trans g78
      replace B3 := B3.pf g78 rfl (by omega)
      replace B65 := B65.pf g78 rfl (by omega)
      have hk0 := hk0.pf g78 hD
      try have hkid := hkid.pf g78 hD
      try have hkf := hkf.pf g78 hD
      refine sr_sub [(0, _, _), (3, _, _), (64, _, _), (65, _, _), (67, _, _), (68, _, _), (69, _, _), (70, _, _), (71, _, _), (72, _, _), (73, _, _), (74, _, _), (75, _, _), (76, _, _), (77, _, _)] (sub_cons rfl (sub_cons rfl (sub_cons rfl (sub_cons rfl (sub_cons rfl (sub_cons rfl (sub_cons rfl (sub_cons rfl (sub_cons rfl (sub_cons rfl (sub_cons rfl (sub_cons rfl (sub_cons rfl (sub_cons rfl (sub_cons rfl (sub_nil _)))))))))))))))) ?_
      refine sr_nil (hK22 _ _ ?_)
      refine sc_text [3, 1, 2] ?_
      refine sr_pu rfl (fun _ => rd_move (ev_t rfl)) ?_
      refine sr_buildSlice [_] rfl el_sl_string ze_string (parts_cons ev_c (parts_nil)) rfl rfl ?_
      intro b80 w80 N80
      have x80_3 := N80.ne B3
      have x80_65 := N80.ne B65
      have l80 := newge N80 g.size
      try have l80_gl1 := newge N80 gl1.size
      have g := g.trans (PF.of_g (N80.g))
      try have gl1 := gl1.trans (PF.of_g (N80.g))
      replace B3 := B3.grow (N80.g)
      replace B65 := B65.grow (N80.g)
      have hP := hP.grow (N80.g)
      have hk0 := hk0.grow (N80.g)
      try have hkid := hkid.grow (N80.g)
      try have hkf := hkf.grow (N80.g)
      have B80 := N80.blk
      refine sr_call rfl (rc_call go_syntax_printer_write ev_f (args_cons (ev_t rfl) (args_cons (ev_t rfl) (args_nil))) rfl) (write_ok [[32]] hP B80 (by omega) (by first | omega | (simp only [List.length_append, List.length_cons, List.length_nil, List.flatten_cons, List.flatten_nil, List.append_nil, tabsL, List.length_replicate]; omega) | (simp at hlen ⊢ <;> omega)) (by first | rfl | (simp [ht]; done) | (simpa using ht)) (Nat.le_of_ble_eq_true rfl)) ?_
      rintro v81 w81 ⟨rfl, hP, g81⟩
      refine ⟨fun h => absurd h (by decide), ?_⟩
      have g := g.trans g81
      try have gl1 := gl1.trans g81
      replace B3 := B3.pf g81 rfl (by omega)
      replace B65 := B65.pf g81 rfl (by omega)
      replace B80 := B80.pf g81 rfl (by omega)
      have hk0 := hk0.pf g81 hD
      try have hkid := hkid.pf g81 hD
      try have hkf := hkf.pf g81 hD
      refine sr_sub [(0, _, _), (3, _, _), (64, _, _), (65, _, _), (67, _, _), (68, _, _), (69, _, _), (70, _, _), (71, _, _), (72, _, _), (73, _, _), (74, _, _), (75, _, _), (76, _, _), (77, _, _), (79, _, _), (80, _, _)] (sub_cons rfl (sub_cons rfl (sub_cons rfl (sub_cons rfl (sub_cons rfl (sub_cons rfl (sub_cons rfl (sub_cons rfl (sub_cons rfl (sub_cons rfl (sub_cons rfl (sub_cons rfl (sub_cons rfl (sub_cons rfl (sub_cons rfl (sub_cons rfl (sub_cons rfl (sub_nil _)))))))))))))))))) ?_
      refine sr_nil (hK20 _ _ ?_)
      refine sc_text [3, 3, 0, 3, 0, 2] ?_
      refine sr_pu rfl (fun _ => rd_move (ev_t rfl)) ?_
      refine sr_pu rfl (fun _ => rd_field fo_api_Node_4 (ev_t rfl)) ?_
      refine sr_rd rfl (rd_load one_sl_api_Node (ev_t rfl) (fun _ => B3.at_ rfl)) ?_
      obtain ⟨hpe, p_85, c_85, hcell, hkid⟩ := kd_opt hk0 (i := 2) (by omega)
      refine sr_pu rfl (fun _ => rd_idxq el_sl_api_Node (ev_t rfl) ev_c (fun _ => by omega) (fun _ => hpe)) ?_
      refine sr_rd rfl (rd_loads agg_api_Node (ev_t rfl) rfl (fun _ => hcell)) ?_
      refine sr_call rfl (rc_call go_syntax_printer_block ev_f (args_cons (ev_t rfl) (args_cons (ev_t rfl) (args_nil))) rfl) (hB2 _ _ D n0 b _ k _ hkid hD hP (by first | omega | (simp only [List.length_append, List.length_cons, List.length_nil, List.flatten_cons, List.flatten_nil, List.append_nil, tabsL, List.length_replicate]; omega)) (by omega)) ?_
      rintro v87 w87 ⟨rfl, hP, g87⟩
      refine ⟨fun h => absurd h (by decide), ?_⟩
      have g := g.trans g87
      try have gl1 := gl1.trans g87
      replace B3 := B3.pf g87 rfl (by omega)
      replace B65 := B65.pf g87 rfl (by omega)
      replace B80 := B80.pf g87 rfl (by omega)
      have hk0 := hk0.pf g87 hD
      try have hkid := hkid.pf g87 hD
      try have hkf := hkf.pf g87 hD
      refine sr_sub [(0, _, _), (3, _, _), (64, _, _), (65, _, _), (67, _, _), (68, _, _), (69, _, _), (70, _, _), (71, _, _), (72, _, _), (73, _, _), (74, _, _), (75, _, _), (76, _, _), (77, _, _), (79, _, _), (80, _, _), (82, _, _), (83, _, _), (84, _, _), (85, _, _), (86, _, _)] (sub_cons rfl (sub_cons rfl (sub_cons rfl (sub_cons rfl (sub_cons rfl (sub_cons rfl (sub_cons rfl (sub_cons rfl (sub_cons rfl (sub_cons rfl (sub_cons rfl (sub_cons rfl (sub_cons rfl (sub_cons rfl (sub_cons rfl (sub_cons rfl (sub_cons rfl (sub_cons rfl (sub_cons rfl (sub_cons rfl (sub_cons rfl (sub_cons rfl (sub_nil _))))))))))))))))))))))) ?_
      refine sr_nil (t_end0 rfl ?_)
      refine ⟨rfl, ?_, g⟩
      rw [e]; simpa only [List.append_assoc, List.flatten_cons, List.flatten_nil, List.append_nil] using hP
    replace h6 : decide ((kidAt t 1).kind = 9) = true := by simpa using h6
    rw [h6, cond_true, List.append_nil] at e
    refine sc_skip (hK20 _ _ ?_)
    refine sc_text [3, 3, 0, 3, 0, 2] ?_
    refine sr_pu rfl (fun _ => rd_move (ev_t rfl)) ?_
    refine sr_pu rfl (fun _ => rd_field fo_api_Node_4 (ev_t rfl)) ?_
    refine sr_rd rfl (rd_load one_sl_api_Node (ev_t rfl) (fun _ => B3.at_ rfl)) ?_
    obtain ⟨hpe, p_85, c_85, hcell, hkid⟩ := kd_opt hk0 (i := 2) (by omega)
    refine sr_pu rfl (fun _ => rd_idxq el_sl_api_Node (ev_t rfl) ev_c (fun _ => by omega) (fun _ => hpe)) ?_
    refine sr_rd rfl (rd_loads agg_api_Node (ev_t rfl) rfl (fun _ => hcell)) ?_
    refine sr_call rfl (rc_call go_syntax_printer_block ev_f (args_cons (ev_t rfl) (args_cons (ev_t rfl) (args_nil))) rfl) (hB2 _ _ D n0 b _ k _ hkid hD hP (by first | omega | (simp only [List.length_append, List.length_cons, List.length_nil, List.flatten_cons, List.flatten_nil, List.append_nil, tabsL, List.length_replicate]; omega)) (by omega)) ?_
    rintro v87 w87 ⟨rfl, hP, g87⟩
    refine ⟨fun h => absurd h (by decide), ?_⟩
    have g := g.trans g87
    try have gl1 := gl1.trans g87
    replace B3 := B3.pf g87 rfl (by omega)
    replace B65 := B65.pf g87 rfl (by omega)
    have hk0 := hk0.pf g87 hD
    try have hkid := hkid.pf g87 hD
    try have hkf := hkf.pf g87 hD
    refine sr_sub [(0, _, _), (3, _, _), (64, _, _), (65, _, _), (67, _, _), (68, _, _), (69, _, _), (70, _, _), (71, _, _), (72, _, _), (82, _, _), (83, _, _), (84, _, _), (85, _, _), (86, _, _)] (sub_cons rfl (sub_cons rfl (sub_cons rfl (sub_cons rfl (sub_cons rfl (sub_cons rfl (sub_cons rfl (sub_cons rfl (sub_cons rfl (sub_cons rfl (sub_cons rfl (sub_cons rfl (sub_cons rfl (sub_cons rfl (sub_cons rfl (sub_nil _)))))))))))))))) ?_
    refine sr_nil (t_end0 rfl ?_)
    refine ⟨rfl, ?_, g⟩
    rw [e]; simpa only [List.append_assoc, List.flatten_cons, List.flatten_nil, List.append_nil] using hP
  (try simp only [bsimp] at h3)
  refine sc_seq fun K23 hK23 => ?_
  refine sc_text [3, 3] ?_
  refine sr_pu rfl (fun _ => rd_eq (ev_t rfl) ev_c) ?_
  refine sr_pu rfl (fun _ => rd_assign (ev_t rfl)) ?_
  refine sr_sub [(0, _, _), (3, _, _), (88, _, _)] (sub_cons rfl (sub_cons rfl (sub_cons rfl (sub_nil _)))) ?_
  refine sr_nil (hK23 _ _ ?_)
  refine sc_cond (ev_t rfl) (fun h7 => ?_) (fun h7 => ?_)
  · replace h7 := of_decide_eq_true h7
    obtain ⟨ht, hl, hty, hin⟩ := sh6 (hx.elim (fun h => absurd h.1 (by omega)) fun h => h.elim (fun h => absurd h.1 (by omega)) fun h => h.elim (fun h => absurd h.1 (by omega)) fun h => h.2)
    have hc1 := count_kidAt (t := t) (i := 1) (by omega)
    have e := decX_6 h7 hl k
    rw [e] at hlen
    simp only [List.length_append, List.length_cons, List.length_nil, List.flatten_cons, List.flatten_nil, List.append_nil, tabsL, List.length_replicate] at hlen
    refine sc_seq fun K24 hK24 => ?_
    refine sc_text [3, 3, 0, 1, 2] ?_
    refine sr_pu rfl (fun _ => rd_move (ev_t rfl)) ?_
    refine sr_pu rfl (fun _ => rd_field fo_api_Node_1 (ev_t rfl)) ?_
    refine sr_rd rfl (rd_load one_string (ev_t rfl) (fun _ => B3.at_ rfl)) ?_
    refine sr_buildSlice [_, _, _] rfl el_sl_string ze_string (parts_cons ev_c (parts_cons (ev_t rfl) (parts_cons ev_c (parts_nil)))) rfl rfl ?_
    intro b93 w93 N93
    have x93_3 := N93.ne B3
    have l93 := newge N93 g.size
    have g := g.trans (PF.of_g (N93.g))
    replace B3 := B3.grow (N93.g)
    have hP := hP.grow (N93.g)
    have hk0 := hk0.grow (N93.g)
    try have hkid := hkid.grow (N93.g)
    try have hkf := hkf.grow (N93.g)
    have B93 := N93.blk
    refine sr_call rfl (rc_call go_syntax_printer_write ev_f (args_cons (ev_t rfl) (args_cons (ev_t rfl) (args_nil))) rfl) (write_ok [[118, 97, 114, 32], t.text, [32]] hP B93 (by omega) (by first | omega | (simp only [List.length_append, List.length_cons, List.length_nil, List.flatten_cons, List.flatten_nil, List.append_nil, tabsL, List.length_replicate]; omega) | (simp at hlen ⊢ <;> omega)) (by first | rfl | (simp [ht]; done) | (simpa using ht)) (Nat.le_of_ble_eq_true rfl)) ?_
    rintro v94 w94 ⟨rfl, hP, g94⟩
    refine ⟨fun h => absurd h (by decide), ?_⟩
    have g := g.trans g94
    replace B3 := B3.pf g94 rfl (by omega)
    replace B93 := B93.pf g94 rfl (by omega)
    have hk0 := hk0.pf g94 hD
    try have hkid := hkid.pf g94 hD
    try have hkf := hkf.pf g94 hD
    refine sr_sub [(0, _, _), (3, _, _)] (sub_cons rfl (sub_cons rfl (sub_nil _))) ?_
    refine sr_nil (hK24 _ _ ?_)
    refine sc_seq fun K25 hK25 => ?_
    refine sc_text [3, 3, 0, 3, 0, 2] ?_
    refine sr_pu rfl (fun _ => rd_move (ev_t rfl)) ?_
    refine sr_pu rfl (fun _ => rd_field fo_api_Node_4 (ev_t rfl)) ?_
    refine sr_rd rfl (rd_load one_sl_api_Node (ev_t rfl) (fun _ => B3.at_ rfl)) ?_
    obtain ⟨hpe, p_98, c_98, hcell, hkid⟩ := kd_opt hk0 (i := 0) (by omega)
    refine sr_pu rfl (fun _ => rd_idxq el_sl_api_Node (ev_t rfl) ev_c (fun _ => by omega) (fun _ => hpe)) ?_
    refine sr_rd rfl (rd_loads agg_api_Node (ev_t rfl) rfl (fun _ => hcell)) ?_
    refine sr_call rfl (rc_call go_syntax_printer_typ ev_f (args_cons (ev_t rfl) (args_cons (ev_t rfl) (args_nil))) rfl) (typ_ok _ _ hP (typ_ne hty) (by first | omega | (simp only [List.length_append, List.length_cons, List.length_nil, List.flatten_cons, List.flatten_nil, List.append_nil, tabsL, List.length_replicate]; omega)) ⟨_, _, rfl⟩) ?_
    rintro v100 w100 ⟨rfl, hP, g100⟩
    refine ⟨fun h => absurd h (by decide), ?_⟩
    have g := g.trans g100
    replace B3 := B3.pf g100 rfl (by omega)
    replace B93 := B93.pf g100 rfl (by omega)
    have hk0 := hk0.pf g100 hD
    try have hkid := hkid.pf g100 hD
    try have hkf := hkf.pf g100 hD
    refine sr_sub [(0, _, _), (3, _, _)] (sub_cons rfl (sub_cons rfl (sub_nil _))) ?_
    refine sr_nil (hK25 _ _ ?_)
    refine sc_seq fun K26 hK26 => ?_
    refine sc_text [3, 0, 3, 3, 0, 3] ?_
    refine sr_pu rfl (fun _ => rd_field fo_api_Node_4 (ev_t rfl)) ?_
    refine sr_rd rfl (rd_load one_sl_api_Node (ev_t rfl) (fun _ => B3.at_ rfl)) ?_
    obtain ⟨hpe, p_103, c_103, hcell, hkid⟩ := kd_opt hk0 (i := 1) (by omega)
    refine sr_pu rfl (fun _ => rd_idxq el_sl_api_Node (ev_t rfl) ev_c (fun _ => by omega) (fun _ => hpe)) ?_
    refine sr_pu rfl (fun _ => rd_field fo_api_Node_0 (ev_t rfl)) ?_
    refine sr_rd rfl (rd_load one_int (ev_t rfl) (fun _ => hcell 0 _ rfl)) ?_
    refine sr_pu rfl (fun _ => rd_ne (ev_t rfl) ev_c) ?_
    refine sr_sub [(0, _, _), (3, _, _), (106, _, _)] (sub_cons rfl (sub_cons rfl (sub_cons rfl (sub_nil _)))) ?_
    refine sr_nil (hK26 _ _ ?_)
    refine sc_cond (ev_t rfl) (fun h8 => ?_) (fun h8 => ?_)
    · replace h8 : decide ((kidAt t 1).kind = 9) = false := by simpa using h8
      have hE1 := ih.e (i := 1) (by omega) (hin.resolve_left fun h => absurd (none_of h).1 (of_decide_eq_false h8)) hok
      rw [h8, cond_false] at e hlen
      simp only [List.length_append, List.length_cons, List.length_nil, List.flatten_cons, List.flatten_nil, List.append_nil, tabsL, List.length_replicate] at hlen
      refine sc_seq fun K27 hK27 => ?_
      refine sc_text [3, 1, 2] ?_
      refine sr_pu rfl (fun _ => rd_move (ev_t rfl)) ?_
      refine sr_buildSlice [_] rfl el_sl_string ze_string (parts_cons ev_c (parts_nil)) rfl rfl ?_
      intro b108 w108 N108
      have x108_3 := N108.ne B3
      have x108_93 := N108.ne B93
      have l108 := newge N108 g.size
      have g := g.trans (PF.of_g (N108.g))
      replace B3 := B3.grow (N108.g)
      replace B93 := B93.grow (N108.g)
      have hP := hP.grow (N108.g)
      have hk0 := hk0.grow (N108.g)
      try have hkid := hkid.grow (N108.g)
      try have hkf := hkf.grow (N108.g)
      have B108 := N108.blk
      refine sr_call rfl (rc_call go_syntax_printer_write ev_f (args_cons (ev_t rfl) (args_cons (ev_t rfl) (args_nil))) rfl) (write_ok [[32, 61, 32]] hP B108 (by omega) (by first | omega | (simp only [List.length_append, List.length_cons, List.length_nil, List.flatten_cons, List.flatten_nil, List.append_nil, tabsL, List.length_replicate]; omega) | (simp at hlen ⊢ <;> omega)) (by first | rfl | (simp [ht]; done) | (simpa using ht)) (Nat.le_of_ble_eq_true rfl)) ?_
      rintro v109 w109 ⟨rfl, hP, g109⟩
      refine ⟨fun h => absurd h (by decide), ?_⟩
      have g := g.trans g109
      replace B3 := B3.pf g109 rfl (by omega)
      replace B93 := B93.pf g109 rfl (by omega)
      replace B108 := B108.pf g109 rfl (by omega)
      have hk0 := hk0.pf g109 hD
      try have hkid := hkid.pf g109 hD
      try have hkf := hkf.pf g109 hD
      refine sr_sub [(0, _, _), (3, _, _)] (sub_cons rfl (sub_cons rfl (sub_nil _))) ?_
      refine sr_nil (hK27 _ _ ?_)
      refine sc_text [3, 3, 0, 3, 0, 2] ?_
      refine sr_pu rfl (fun _ => rd_move (ev_t rfl)) ?_
      refine sr_pu rfl (fun _ => rd_field fo_api_Node_4 (ev_t rfl)) ?_
      refine sr_rd rfl (rd_load one_sl_api_Node (ev_t rfl) (fun _ => B3.at_ rfl)) ?_
      obtain ⟨hpe, p_113, c_113, hcell, hkid⟩ := kd_opt hk0 (i := 1) (by omega)
      refine sr_pu rfl (fun _ => rd_idxq el_sl_api_Node (ev_t rfl) ev_c (fun _ => by omega) (fun _ => hpe)) ?_
      refine sr_rd rfl (rd_loads agg_api_Node (ev_t rfl) rfl (fun _ => hcell)) ?_
      refine sr_call rfl (rc_call go_syntax_printer_expr ev_f (args_cons (ev_t rfl) (args_cons (ev_t rfl) (args_nil))) rfl) (hE1 _ _ D n0 b _ k _ hkid hD hP (by first | omega | (simp only [List.length_append, List.length_cons, List.length_nil, List.flatten_cons, List.flatten_nil, List.append_nil, tabsL, List.length_replicate]; omega)) (by omega)) ?_
      rintro v115 w115 ⟨rfl, hP, g115⟩
      refine ⟨fun h => absurd h (by decide), ?_⟩
      have g := g.trans g115
      replace B3 := B3.pf g115 rfl (by omega)
      replace B93 := B93.pf g115 rfl (by omega)
      replace B108 := B108.pf g115 rfl (by omega)
      have hk0 := hk0.pf g115 hD
      try have hkid := hkid.pf g115 hD
      try have hkf := hkf.pf g115 hD
      refine sr_sub [] (sub_nil _) ?_
      refine sr_nil (t_end0 rfl ?_)
      refine ⟨rfl, ?_, g⟩
      rw [e]; simpa only [List.append_assoc, List.flatten_cons, List.flatten_nil, List.append_nil] using hP
    replace h8 : decide ((kidAt t 1).kind = 9) = true := by simpa using h8
    rw [h8, cond_true, List.append_nil] at e
    refine sc_skip (t_end0 rfl ?_)
    refine ⟨rfl, ?_, g⟩
    rw [e]; simpa only [List.append_assoc, List.flatten_cons, List.flatten_nil, List.append_nil] using hP
  (try simp only [bsimp] at h7)
  exfalso; simp only [bsimp, decide_eq_false_iff_not] at h1 h2 h3 h7; omega
theorem st_kinds {t : Nd} (h : stmtB t = true) : t.kind = 6 ∨ t.kind = 10 ∨ t.kind = 11 ∨ t.kind = 12 ∨ t.kind = 13 ∨ t.kind = 14 ∨ t.kind = 15 ∨ t.kind = 16 ∨ t.kind = 17 ∨ t.kind = 21 ∨ t.kind = 18 ∨ t.kind = 19 ∨ t.kind = 20 ∨ t.kind = 22 := by
  have h1 := (Bool.and_eq_true_iff.1 h).1
  unfold stK at h1
  simp only [anyK, Bool.or_eq_true, decide_eq_true_eq] at h1
  omega
theorem stmt_ok {t : Nd} (ih : PBel t) (hx : pstB t = true) (hok : okNd t) : PrOk fn_syntax_printer_stmt pst t := by
  intro p c D n0 b l k w hk0 hD hP hlen hc
  have g := PF.refl n0 b w
  have hbn := hP.ge
  have hcs := pst_cases hx
  refine ret_of_sc (m := 26) func_syntax_printer_stmt rfl rfl [(0, True, _), (1, True, _)] (sub_cons rfl (sub_cons rfl (sub_nil _))) ?_
  refine sc_seq fun K1 hK1 => ?_
  refine sc_text [1] ?_
  refine sr_box rfl (ev_t rfl) rfl ?_
  intro b3 w3 N3
  have l3 := newge N3 g.size
  have g := g.trans (PF.of_g (N3.g))
  have hP := hP.grow (N3.g)
  have hk0 := hk0.grow (N3.g)
  have B3 := N3.blk
  refine sr_sub [(0, _, _), (3, _, _)] (sub_cons rfl (sub_cons rfl (sub_nil _))) ?_
  refine sr_nil (hK1 _ _ ?_)
  refine sc_seq fun K2 hK2 => ?_
  refine sc_text [3, 0] ?_
  refine sr_pu rfl (fun _ => rd_field fo_api_Node_0 (ev_t rfl)) ?_
  refine sr_rd rfl (rd_load one_int (ev_t rfl) (fun _ => B3.at_ rfl)) ?_
  refine sr_sub [(0, _, _), (3, _, _), (5, _, _)] (sub_cons rfl (sub_cons rfl (sub_cons rfl (sub_nil _)))) ?_
  refine sr_nil (hK2 _ _ ?_)
  refine sc_block ?_
  refine sc_seq fun K3 hK3 => ?_
  refine sc_seq fun K4 hK4 => ?_
  refine sc_text [3, 3] ?_
  refine sr_pu rfl (fun _ => rd_eq (ev_t rfl) ev_c) ?_
  refine sr_pu rfl (fun _ => rd_assign (ev_t rfl)) ?_
  refine sr_sub [(0, _, _), (3, _, _), (5, _, _), (9, _, _)] (sub_cons rfl (sub_cons rfl (sub_cons rfl (sub_cons rfl (sub_nil _))))) ?_
  refine sr_nil (hK4 _ _ ?_)
  refine' sc_or [(0, _, _), (3, _, _), (5, _, _)] (sub_cons rfl (sub_cons rfl (sub_cons rfl (sub_cons rfl (sub_nil _))))) rfl (fun hb1 => ?y1) (hK3 _ _ ?n1)
  case y1 =>
   refine sc_seq fun K5 hK5 => ?_
   refine sc_text [3, 3] ?_
   refine sr_pu rfl (fun _ => rd_eq (ev_t rfl) ev_c) ?_
   refine sr_pu rfl (fun _ => rd_assign (ev_t rfl)) ?_
   refine sr_sub [(0, _, _), (3, _, _), (5, _, _), (9, _, _)] (sub_cons rfl (sub_cons rfl (sub_cons rfl (sub_cons rfl (sub_nil _))))) ?_
   refine sr_nil (hK5 _ _ ?_)
   refine' sc_or [(0, _, _), (3, _, _), (5, _, _)] (sub_cons rfl (sub_cons rfl (sub_cons rfl (sub_cons rfl (sub_nil _))))) rfl (fun hb2 => ?y2) (fun a ha => ⟨ha, rfl⟩)
   case y2 =>
    refine sc_seq fun K6 hK6 => ?_
    refine sc_text [3, 3] ?_
    refine sr_pu rfl (fun _ => rd_eq (ev_t rfl) ev_c) ?_
    refine sr_pu rfl (fun _ => rd_assign (ev_t rfl)) ?_
    refine sr_sub [(0, _, _), (3, _, _), (5, _, _), (9, _, _)] (sub_cons rfl (sub_cons rfl (sub_cons rfl (sub_cons rfl (sub_nil _))))) ?_
    refine sr_nil (hK6 _ _ ?_)
    refine' sc_or [(0, _, _), (3, _, _), (5, _, _)] (sub_cons rfl (sub_cons rfl (sub_cons rfl (sub_cons rfl (sub_nil _))))) rfl (fun hb3 => ?y3) (fun a ha => ⟨ha, rfl⟩)
    case y3 =>
     refine sc_text [3, 3] ?_
     refine sr_pu rfl (fun _ => rd_eq (ev_t rfl) ev_c) ?_
     refine sr_pu rfl (fun _ => rd_assign (ev_t rfl)) ?_
     refine sr_sub [(9, _, _), (0, _, _), (3, _, _), (5, _, _)] (sub_cons rfl (sub_cons rfl (sub_cons rfl (sub_cons rfl (sub_nil _))))) ?_
     exact sr_nil (fun a ha => ⟨ha, rfl⟩)
  case n1 =>
   refine sc_cond (ev_t rfl) (fun h4 => ?_) (fun h4 => ?_)
   · simp only [Bool.or_eq_true, decide_eq_true_eq] at h4
     replace hcs : (t.kind = 2 ∧ declB t = true) ∨ (t.kind = 3 ∧ fieldB t = true) ∨ (t.kind = 4 ∧ declB t = true) ∨ (t.kind = 6 ∧ varB t = true) := by
       rcases hcs with h | h | h | h | h | h
       · exact .inl h
       · exact .inr (.inl h)
       · exact .inr (.inr (.inl h))
       · exact .inr (.inr (.inr h))
       · have := h.1; omega
       · have := st_kinds h
         exact .inr (.inr (.inr ⟨by omega, sh6s (by omega) h⟩))
     have e : pst t k = pst t k := rfl
     refine sc_text [3, 0, 2] ?_
     refine sr_pu rfl (fun _ => rd_move (ev_t rfl)) ?_
     refine sr_rd rfl (rd_loads agg_api_Node (ev_t rfl) rfl (fun _ => B3.row)) ?_
     refine sr_call rfl (rc_call go_syntax_printer_declaration ev_f (args_cons (ev_t rfl) (args_cons (ev_t rfl) (args_nil))) rfl) (declaration_ok ih hcs hok _ _ D n0 b _ k _ hk0 hD hP hlen hc) ?_
     rintro v16 w16 ⟨rfl, hP, g16⟩
     refine ⟨fun h => absurd h (by decide), ?_⟩
     have g := g.trans g16
     replace B3 := B3.pf g16 rfl (by omega)
     have hk0 := hk0.pf g16 hD
     refine sr_sub [] (sub_nil _) ?_
     refine sr_nil (t_end0 rfl ?_)
     refine ⟨rfl, ?_, g⟩
     rw [e]; exact hP
   simp only [Bool.or_eq_false_iff, decide_eq_false_iff_not] at h4
   refine sc_seq fun K7 hK7 => ?_
   refine sc_seq fun K8 hK8 => ?_
   refine sc_text [3, 3] ?_
   refine sr_pu rfl (fun _ => rd_eq (ev_t rfl) ev_c) ?_
   refine sr_pu rfl (fun _ => rd_assign (ev_t rfl)) ?_
   refine sr_sub [(0, _, _), (3, _, _), (5, _, _), (17, _, _)] (sub_cons rfl (sub_cons rfl (sub_cons rfl (sub_cons rfl (sub_nil _))))) ?_
   refine sr_nil (hK8 _ _ ?_)
   refine' sc_or [(0, _, _), (3, _, _)] (sub_cons rfl (sub_cons rfl (sub_cons rfl (sub_nil _)))) rfl (fun hb5 => ?y5) (hK7 _ _ ?n5)
   case y5 =>
    refine sc_seq fun K9 hK9 => ?_
    refine sc_text [3, 3] ?_
    refine sr_pu rfl (fun _ => rd_eq (ev_t rfl) ev_c) ?_
    refine sr_pu rfl (fun _ => rd_assign (ev_t rfl)) ?_
    refine sr_sub [(0, _, _), (3, _, _), (5, _, _), (17, _, _)] (sub_cons rfl (sub_cons rfl (sub_cons rfl (sub_cons rfl (sub_nil _))))) ?_
    refine sr_nil (hK9 _ _ ?_)
    refine' sc_or [(0, _, _), (3, _, _)] (sub_cons rfl (sub_cons rfl (sub_cons rfl (sub_nil _)))) rfl (fun hb6 => ?y6) (fun a ha => ⟨ha, rfl⟩)
    case y6 =>
     refine sc_seq fun K10 hK10 => ?_
     refine sc_text [3, 3] ?_
     refine sr_pu rfl (fun _ => rd_eq (ev_t rfl) ev_c) ?_
     refine sr_pu rfl (fun _ => rd_assign (ev_t rfl)) ?_
     refine sr_sub [(0, _, _), (3, _, _), (5, _, _), (17, _, _)] (sub_cons rfl (sub_cons rfl (sub_cons rfl (sub_cons rfl (sub_nil _))))) ?_
     refine sr_nil (hK10 _ _ ?_)
     refine' sc_or [(0, _, _), (3, _, _)] (sub_cons rfl (sub_cons rfl (sub_cons rfl (sub_nil _)))) rfl (fun hb7 => ?y7) (fun a ha => ⟨ha, rfl⟩)
     case y7 =>
      refine sc_seq fun K11 hK11 => ?_
      refine sc_text [3, 3] ?_
      refine sr_pu rfl (fun _ => rd_eq (ev_t rfl) ev_c) ?_
      refine sr_pu rfl (fun _ => rd_assign (ev_t rfl)) ?_
      refine sr_sub [(0, _, _), (3, _, _), (5, _, _), (17, _, _)] (sub_cons rfl (sub_cons rfl (sub_cons rfl (sub_cons rfl (sub_nil _))))) ?_
      refine sr_nil (hK11 _ _ ?_)
      refine' sc_or [(0, _, _), (3, _, _)] (sub_cons rfl (sub_cons rfl (sub_cons rfl (sub_nil _)))) rfl (fun hb8 => ?y8) (fun a ha => ⟨ha, rfl⟩)
      case y8 =>
       refine sc_text [3, 3] ?_
       refine sr_pu rfl (fun _ => rd_eq (ev_t rfl) ev_c) ?_
       refine sr_pu rfl (fun _ => rd_assign (ev_t rfl)) ?_
       refine sr_sub [(17, _, _), (0, _, _), (3, _, _)] (sub_cons rfl (sub_cons rfl (sub_cons rfl (sub_nil _)))) ?_
       exact sr_nil (fun a ha => ⟨ha, rfl⟩)
   case n5 =>
    refine sc_cond (ev_t rfl) (fun h9 => ?_) (fun h9 => ?_)
    · simp only [Bool.or_eq_true, decide_eq_true_eq] at h9
      have hkk : t.kind = 18 ∨ t.kind = 19 ∨ t.kind = 10 ∨ t.kind = 22 ∨ t.kind = 23 := by omega
      replace hcs : (t.kind = 23 ∧ caseB t = true) ∨ stmtB t = true := by
        rcases hcs with h | h | h | h | h | h
        · have := h.1; omega
        · have := h.1; omega
        · have := h.1; omega
        · have := h.1; omega
        · exact .inl h
        · exact .inr h
      have e : pst t k = pst t k := rfl
      refine sc_text [3, 0, 2] ?_
      refine sr_pu rfl (fun _ => rd_move (ev_t rfl)) ?_
      refine sr_rd rfl (rd_loads agg_api_Node (ev_t rfl) rfl (fun _ => B3.row)) ?_
      refine sr_call rfl (rc_call go_syntax_printer_compound ev_f (args_cons (ev_t rfl) (args_cons (ev_t rfl) (args_nil))) rfl) (compound_ok ih hcs hok hkk _ _ D n0 b _ k _ hk0 hD hP hlen hc) ?_
      rintro v25 w25 ⟨rfl, hP, g25⟩
      refine ⟨fun h => absurd h (by decide), ?_⟩
      have g := g.trans g25
      replace B3 := B3.pf g25 rfl (by omega)
      have hk0 := hk0.pf g25 hD
      refine sr_sub [] (sub_nil _) ?_
      refine sr_nil (t_end0 rfl ?_)
      refine ⟨rfl, ?_, g⟩
      rw [e]; exact hP
    simp only [Bool.or_eq_false_iff, decide_eq_false_iff_not] at h9
    replace hcs : stmtB t = true := by
      rcases hcs with h | h | h | h | h | h
      · have := h.1; omega
      · have := h.1; omega
      · have := h.1; omega
      · have := h.1; omega
      · have := h.1; omega
      · exact h
    have hkk := st_kinds hcs
    replace hkk : t.kind = 11 ∨ t.kind = 12 ∨ t.kind = 13 ∨ t.kind = 14 ∨ t.kind = 15 ∨ t.kind = 16 ∨ t.kind = 17 ∨ t.kind = 20 ∨ t.kind = 21 := by omega
    have e : pst t k = stT t k := by rw [pst_stmt hcs]
    refine sc_text [3, 0, 2] ?_
    refine sr_pu rfl (fun _ => rd_move (ev_t rfl)) ?_
    refine sr_rd rfl (rd_loads agg_api_Node (ev_t rfl) rfl (fun _ => B3.row)) ?_
    refine sr_call rfl (rc_call go_syntax_printer_simple ev_f (args_cons (ev_t rfl) (args_cons (ev_t rfl) (args_nil))) rfl) (simple_ok ih hcs hok hkk _ _ D n0 b _ k _ hk0 hD hP (by rw [← e]; exact hlen) hc) ?_
    rintro v8 w8 ⟨rfl, hP, g8⟩
    refine ⟨fun h => absurd h (by decide), ?_⟩
    have g := g.trans g8
    replace B3 := B3.pf g8 rfl (by omega)
    have hk0 := hk0.pf g8 hD
    refine sr_sub [] (sub_nil _) ?_
    refine sr_nil (t_end0 rfl ?_)
    refine ⟨rfl, ?_, g⟩
    rw [e]; exact hP
theorem pok_all (t : Nd) : POk t := by
  have h : ∀ n, ∀ t, count t = n → POk t := by
    intro n
    induction n using Nat.strongRecOn with
    | ind n ih =>
      intro t hn
      have hb : PBel t := fun k hk => ih (count k) (by omega) k rfl
      exact ⟨fun hx hok => expr_ok hb hx hok, fun hx hok => stmt_ok hb hx hok⟩
  exact h _ t rfl
theorem print_stmt {t : Nd} (hx : pstB t = true) (hok : okNd t) : PrOk fn_syntax_printer_stmt pst t := (pok_all t).st hx hok
end Go.Rk
namespace Go.Rk
open Go Go.Shelf Go.RowKit
def lays169_ren : Go.Shelf.Ren := ⟨fun | 169 => 19 | n => n, fun | 70 => 40 | 9 => 9 | 0 => 0 | 72 => 43 | 37 => 41 | 127 => 55 | 3 => 3 | 5 => 5 | n => n, fun | n => n⟩
theorem lays169 : Go.Proofs.Lays.n169 PP lays169_ren := {
  mixed := by kernel_rfl
  f169 := Go.Proofs.Tryd.func19.trans (congrArg some (by kernel_rfl))
  t0 := Go.Proofs.Tryd.underlying0
  a0 := Go.Proofs.Tryd.isAgg0
  z0 := Go.Proofs.Tryd.sizeOf0
  v0 := Go.Proofs.Tryd.zeroValue0
  t3 := Go.Proofs.Tryd.underlying3
  a3 := Go.Proofs.Tryd.isAgg3
  z3 := Go.Proofs.Tryd.sizeOf3
  v3 := Go.Proofs.Tryd.zeroValue3
  t9 := Go.Proofs.Tryd.underlying9
  a9 := Go.Proofs.Tryd.isAgg9
  z9 := Go.Proofs.Tryd.sizeOf9
  v9 := Go.Proofs.Tryd.zeroValue9
  t37 := Go.Proofs.Tryd.underlying41
  a37 := Go.Proofs.Tryd.isAgg41
  z37 := Go.Proofs.Tryd.sizeOf41
  v37 := Go.Proofs.Tryd.zeroValue41
  t70 := Go.Proofs.Tryd.underlying40
  a70 := Go.Proofs.Tryd.isAgg40
  z70 := Go.Proofs.Tryd.sizeOf40
  v70 := Go.Proofs.Tryd.zeroValue40
  t72 := Go.Proofs.Tryd.underlying43
  a72 := Go.Proofs.Tryd.isAgg43
  z72 := Go.Proofs.Tryd.sizeOf43
  v72 := Go.Proofs.Tryd.zeroValue43
  t127 := Go.Proofs.Tryd.underlying55
  a127 := Go.Proofs.Tryd.isAgg55
  z127 := Go.Proofs.Tryd.sizeOf55
  v127 := Go.Proofs.Tryd.zeroValue55 }
end Go.Rk
namespace Go.Proofs
open Go Go.Shelf Go.RowKit
variable {P : Program} {ρ : Ren}
set_option maxHeartbeats 1000000 in
set_option maxRecDepth 100000 in
/-- (*strings.Builder).String over a greater block: turned from the shelf's Any.Builder_String. -/
theorem wide_string (L : Lays.n169 P ρ) (c5 : P.cellsOf (ρ.t 5) = 1) (T : TypeId) (B b : Nat) (p x : Value) (g cap : Nat) (cur : Array Value) (l : List UInt8) (w : World) (hbk : w.heap[b]? = some (.cells #[p, .slice (some ⟨g, 0, none⟩) l.length cap, x] T (0, 0))) (h0 : l ≠ [])
    (hbg : B ≤ g) (hg : w.heap[g]? = some (.cells cur (ρ.t 5) (0, 0))) (hnc : l.length ≤ cap) (hcm : cap ≤ maxLen) (hcs : cur.size = cap * 1) (hcells : ∀ j y, l[j]? = some y → w.cell? ((⟨g, 0, none⟩ : Addr).add j) = some (.int .u8 y.toNat)) :
    Calls P (ρ.f 169) #[.pointer (some ⟨b, 0, none⟩)] w fun e w' => e = .returned (.string ⟨l.toArray⟩) ∧ Below B w w' := by
  have hl0 : l.length ≠ 0 := by simpa using h0
  have c1 : w.drew.cell? ⟨b, 1, none⟩ = some (.slice (some ⟨g, 0, none⟩) l.length cap) := by
    have : w.drew.heap[b]? = some (.cells #[p, .slice (some ⟨g, 0, none⟩) l.length cap, x] T (0, 0)) := hbk
    rw [Lib.cell_of_heap this]; rfl
  have hSD : (Builtin.unsafeSliceData_ #[(ρ.t 37)] (ρ.t 127) #[.slice (some ⟨g, 0, none⟩) l.length cap]).run P w.drew = .ok (.pointer (some ⟨g, 0, none⟩)) w.drew :=
    Lib.run_unsafeSliceData_row _ _ _ _ _ _ (by omega)
  have hUS : (Builtin.unsafeString_ #[(ρ.t 127), (ρ.t 3)] (ρ.t 9) #[.pointer (some ⟨g, 0, none⟩), .int .i64 l.length]).run P w.drew = .ok (.string ⟨l.toArray⟩) (w.drew.freeze ⟨g, 0, none⟩ l.length) := by
    refine Lib.run_unsafeString_row w.drew (ρ.t 127) (ρ.t 3) (ρ.t 9) (ρ.t 5) L.t127 c5 g cur.size (by have hg' : w.drew.heap[g]? = some (.cells cur (ρ.t 5) (0, 0)) := hg; simp [World.shape?, hg']) l h0 (by omega) (by unfold maxLen at hcm; omega) ?_
    intro j y hy
    have := hcells j y hy; exact this
  have mixed := L.mixed
  have t72 := L.t72; have a72 := L.a72; have z72 := L.z72; have v72 := L.v72; have u72 := run_underlying L.t72
  have t70 := L.t70; have a70 := L.a70; have z70 := L.z70; have v70 := L.v70; have u70 := run_underlying L.t70
  have t37 := L.t37; have a37 := L.a37; have z37 := L.z37; have v37 := L.v37; have u37 := run_underlying L.t37
  have t127 := L.t127; have a127 := L.a127; have z127 := L.z127; have v127 := L.v127; have u127 := run_underlying L.t127
  have t3 := L.t3; have a3 := L.a3; have z3 := L.z3; have v3 := L.v3; have u3 := run_underlying L.t3
  have t9 := L.t9; have a9 := L.a9; have z9 := L.z9; have v9 := L.v9; have u9 := run_underlying L.t9
  go_enter L.f169, Body.n169_ntmps ρ
  go_wp2
  go_region_o
  all_goals (go_wp2; go_ret; exact ⟨rfl, Lib.below_freeze (Below.drew (Below.refl B w)) (p := ⟨g, 0, none⟩) hbg _⟩)
set_option maxHeartbeats 2000000 in
set_option maxRecDepth 100000 in
/-- The same, no byte written yet: turned from the shelf's Any.Builder_String_nil. -/
theorem wide_string_nil (L : Lays.n169 P ρ) (T : TypeId) (B b : Nat) (p x : Value) (w : World) (hbk : w.heap[b]? = some (.cells #[p, .slice none 0 0, x] T (0, 0))) :
    Calls P (ρ.f 169) #[.pointer (some ⟨b, 0, none⟩)] w fun e w' => e = .returned (.string ⟨#[]⟩) ∧ Below B w w' := by
  have hUS : ∀ (W : World) (q : Option Addr), (Builtin.unsafeString_ #[(ρ.t 127), (ρ.t 3)] (ρ.t 9) #[.pointer q, .int .i64 0]).run P W = .ok (.string .empty) W := fun W q => Lib.run_unsafeString_none W _ _ _ q
  have c1 : w.drew.cell? ⟨b, 1, none⟩ = some (.slice none 0 0) := by
    have : w.drew.heap[b]? = some (.cells #[p, .slice none 0 0, x] T (0, 0)) := hbk
    rw [Lib.cell_of_heap this]; rfl
  have hSD : (Builtin.unsafeSliceData_ #[(ρ.t 37)] (ρ.t 127) #[.slice none 0 0]).run P w.drew = .ok (.pointer none) w.drew := rfl
  have mixed := L.mixed
  have t72 := L.t72; have a72 := L.a72; have z72 := L.z72; have v72 := L.v72; have u72 := run_underlying L.t72
  have t70 := L.t70; have a70 := L.a70; have z70 := L.z70; have v70 := L.v70; have u70 := run_underlying L.t70
  have t37 := L.t37; have a37 := L.a37; have z37 := L.z37; have v37 := L.v37; have u37 := run_underlying L.t37
  have t127 := L.t127; have a127 := L.a127; have z127 := L.z127; have v127 := L.v127; have u127 := run_underlying L.t127
  have t3 := L.t3; have a3 := L.a3; have z3 := L.z3; have v3 := L.v3; have u3 := run_underlying L.t3
  have t9 := L.t9; have a9 := L.a9; have z9 := L.z9; have v9 := L.v9; have u9 := run_underlying L.t9
  go_enter L.f169, Body.n169_ntmps ρ
  go_wp2
  go_region_o
  all_goals (go_wp2; go_ret; exact ⟨rfl, Below.drew (Below.refl B w)⟩)
end Go.Proofs
namespace Go.Rk
open Go Go.RowKit
set_option linter.unusedVariables false
theorem prn_text {n0 b : Nat} {l : List UInt8} {k : Nat} {w : World} (h : Prn n0 b l k w) : Ret PP fn_strings_Builder_String #[.pointer (some ⟨b, 0, none⟩)] w fun v w' => v = Str l ∧ Go.RowKit.Below n0 w w' := by
  obtain ⟨p, a, q, hB, ha⟩ := h.bld
  have hblk := hB.B
  unfold Blk at hblk
  by_cases h0 : l = []
  · have hq := ha h0
    subst h0; subst hq
    have hq0 : q = 0 := by
      rcases hB.row.2 with ⟨e, _⟩ | ⟨g, cap, cur, e, _⟩
      · injection e
      · injection e with e; cases e
    subst hq0
    refine (Go.Proofs.wide_string_nil lays169 _ n0 b _ _ w hblk).mono ?_
    rintro e w' ⟨rfl, hb⟩
    exact ⟨_, rfl, rfl, hb⟩
  · obtain ⟨g, cap, cur, hv, hbg, hg, hnc, hcm, hcs, htake⟩ : ∃ g cap cur, Value.slice a l.length q = .slice (some ⟨g, 0, none⟩) l.length cap ∧ n0 ≤ g ∧ w.heap[g]? = some (.cells cur ty_uint8 (0, 0)) ∧ l.length ≤ cap ∧ cap ≤ maxLen ∧ cur.size = cap * 1 ∧ cur.toList.take (l.length * 1) = Lib.byteCells l := by
      rcases hB.row.2 with ⟨_, hz⟩ | ⟨g, cap, cur, hv, r⟩
      · exact absurd hz (by simpa using h0)
      · exact ⟨g, cap, cur, hv, r⟩
    have hown := hB.row
    injection hv with e1 _ e2
    subst e1; subst e2
    refine (Go.Proofs.wide_string lays169 (by kernel_rfl) _ n0 b _ _ g q cur l w hblk h0 hbg hg hnc hcm hcs (fun j y hy => ?_)).mono ?_
    · exact hown.cells (g := g) rfl j (.int .u8 y.toNat) (by simp [Lib.byteCells, hy])
    · rintro e w' ⟨rfl, hb⟩
      exact ⟨_, rfl, rfl, hb⟩
end Go.Rk
namespace Go.Rk
open Go Go.RowKit
set_option linter.unusedVariables false
/-- A printer's block. -/
def PrR (w : World) (k : Nat) : Prop := ∃ cs fr, w.heap[k]? = some (.cells cs ty_syntax_printer fr)
/-- What a printer leaves alone, wherever it lies. -/
structure PQ (n0 : Nat) (w w' : World) : Prop where
  os : w'.os = w.os
  tape : w'.tape = w.tape
  output : w'.output = w.output
  size : w.heap.size ≤ w'.heap.size
  block : ∀ k, k < w.heap.size → (k < n0 ∨ (¬ ByR w k ∧ ¬ PrR w k)) → w'.heap[k]? = w.heap[k]?
theorem PQ.refl (n0 : Nat) (w : World) : PQ n0 w w := ⟨rfl, rfl, rfl, Nat.le_refl _, fun _ _ _ => rfl⟩
theorem PQ.trans {n0 : Nat} {u v w : World} (h : PQ n0 u v) (k : PQ n0 v w) : PQ n0 u w :=
  ⟨k.os.trans h.os, k.tape.trans h.tape, k.output.trans h.output, Nat.le_trans h.size k.size, fun i hi hb => by
    have e := h.block i hi hb
    refine (k.block i (Nat.lt_of_lt_of_le hi h.size) (hb.imp id fun hb => ⟨fun hr => hb.1 ?_, fun hr => hb.2 ?_⟩)).trans e
    · obtain ⟨cs, fr, hr⟩ := hr; exact ⟨cs, fr, e.symm.trans hr⟩
    · obtain ⟨cs, fr, hr⟩ := hr; exact ⟨cs, fr, e.symm.trans hr⟩⟩
theorem PQ.of_g {n0 : Nat} {w w' : World} (h : G w w') : PQ n0 w w' := ⟨h.os, h.tape, h.output, h.size, fun k hk _ => h.block hk⟩
theorem PQ.of_pf {n0 b : Nat} {w w' : World} (h : PF n0 b w w') (hB : PrR w b) : PQ n0 w w' := ⟨h.os, h.tape, h.output, h.size, fun k hk hb => h.block k hk (hb.imp id fun hb => ⟨fun e => hb.2 (e ▸ hB), hb.1⟩)⟩
theorem PQ.g {w w' : World} (h : PQ w.heap.size w w') : G w w' := ⟨h.os, h.tape, h.output, h.size, fun k hk => h.block k hk (.inl hk)⟩
theorem pq_only {n0 : Nat} {w0 w w' : World} {j : Nat} (h : PQ n0 w0 w) (hg : w.grownBy w' (some j)) (hj : w0.heap.size ≤ j) : PQ n0 w0 w' :=
  ⟨hg.os.trans h.os, hg.tape.trans h.tape, hg.output.trans h.output, Nat.le_trans h.size hg.size, fun k hk hb => (hg.block k (Nat.lt_of_lt_of_le hk h.size) (by intro e; injection e with e; omega)).trans (h.block k hk hb)⟩
theorem Blk.pq {n0 j : Nat} {w w' : World} {e : TypeId} {l : List Value} (h : Blk w j e l) (g : PQ n0 w w') (he : Nat.beq e ty_uint8 = false) (he2 : Nat.beq e ty_syntax_printer = false) : Blk w' j e l := by
  refine (g.block j h.lt (.inr ⟨fun ⟨cs, fr, hr⟩ => ?_, fun ⟨cs, fr, hr⟩ => ?_⟩)).trans h
  · unfold Blk at h
    rw [h] at hr; injection hr with hr; injection hr with _ hr; subst hr; simp at he
  · unfold Blk at h
    rw [h] at hr; injection hr with hr; injection hr with _ hr; subst hr; simp at he2
theorem Kd.pq {n0 : Nat} {w w' : World} {D : Nat → Prop} {ks : List Nd} {v : Value} (h : Kd w D ks v) (g : PQ n0 w w') (hD : ∀ k, D k → k < n0) : Kd w' D ks v :=
  kd_frame h (fun _ h _ => h) fun k hk hlt => g.block k hlt (.inl (hD k hk))
theorem Prn.prr {n0 b : Nat} {l : List UInt8} {k : Nat} {w : World} (h : Prn n0 b l k w) : PrR w b := by
  obtain ⟨p, a, q, h1, _⟩ := h.bld
  exact ⟨_, _, h1.B⟩
theorem prn_new {n0 b : Nat} {w : World} (h : Blk w b ty_syntax_printer [.pointer none, .slice none 0 0, .int .i64 0]) (hb : n0 ≤ b) (hT : LaidP n0 w) : Prn n0 b [] 0 w :=
  ⟨⟨none, none, 0, ⟨h, hb, own_none _ _ _ _, (by intro e; cases e), .inl rfl⟩, fun _ => rfl⟩, hT⟩
theorem stmt_q {t : Nd} (hx : pstB t = true) (hok : okNd t) {p : Option Addr} {c : Nat} {D : Nat → Prop} {n0 b : Nat} {l : List UInt8} {w : World} (hk : Kd w D t.kids (.slice p t.kids.length c)) (hD : ∀ x, D x → x < n0) (hP : Prn n0 b l 0 w)
    (hlen : l.length + (pst t 0).length < 100000000) (hc : count t ≤ 1000000) : Ret PP fn_syntax_printer_stmt #[.pointer (some ⟨b, 0, none⟩), ndV t (.slice p t.kids.length c)] w fun r w' => r = .tuple #[] ∧ Prn n0 b (l ++ pst t 0) 0 w' ∧ PQ n0 w w' :=
  (print_stmt hx hok p c D n0 b l 0 w hk hD hP hlen (by omega)).mono fun _ _ h => ⟨h.1, h.2.1, PQ.of_pf h.2.2 hP.prr⟩
theorem write_q {n0 b : Nat} {l : List UInt8} {w : World} (ts : List (List UInt8)) {b' : Nat} (hP : Prn n0 b l 0 w) (hR : Blk w b' ty_string (ts.map Str)) (hb : b' ≠ b) (hlen : l.length + ts.flatten.length < 100000000) (hn : ts.all (fun s => !s.isEmpty) = true) (hts : ts.length ≤ 1000) :
    Ret PP fn_syntax_printer_write #[.pointer (some ⟨b, 0, none⟩), .slice (some ⟨b', 0, none⟩) ts.length ts.length] w fun r w' => r = .tuple #[] ∧ Prn n0 b (l ++ ts.flatten) 0 w' ∧ PQ n0 w w' :=
  (write_ok ts hP hR hb hlen hn hts).mono fun _ _ h => ⟨h.1, h.2.1, PQ.of_pf h.2.2 hP.prr⟩
def prX (l : List Nd) : List UInt8 := l.flatMap fun d => declX d ++ [10]
theorem prX_snoc (l : List Nd) {i : Nat} (h : i < l.length) : prX (l.take (i + 1)) = prX (l.take i) ++ (declX l[i] ++ [10]) := by
  rw [take_step h, prX, List.flatMap_append, prX]; simp
theorem prX_le (l : List Nd) (i : Nat) : (prX (l.take i)).length ≤ (prX l).length := by
  conv => rhs; rw [prX, ← List.take_append_drop i l, List.flatMap_append, List.length_append]
  exact Nat.le_add_right _ _
theorem valid_decl {t : Nd} (h : validB t = true) : t.kids.all declB = true := by
  rw [← rvalid_eq] at h
  cases h1 : (!decide (t.kind = 1) || !plainB t) || decide ((50 : Int) < (depthN t : Nat))
  · rw [h1] at h; exact h
  · rw [h1] at h; cases h
abbrev TabP (w : World) : Prop := Lib.TabIs PP w "internal/strconv.uint64pow10" .u64 Lib.pow10Tab
theorem TabP.grow {w w' : World} (h : TabP w) (g : G w w') : TabP w' := Lib.tabBelow_of_tabIs h w' g
theorem print_ok (t : Nd) (v : Value) (D : Nat → Prop) (w : World) (hL : Laid w) (hb3 : 4 ≤ w.heap.size) (hT : TabP w) (hk : Kd w D t.kids v) (hcn : count t ≤ 1000000) (hok : okNd t) (hlen : (printX t).length < 100000000) :
    Ret PP fn_syntax_Print #[ndV t v] w fun r w' => r = Str (printX t) ∧ G w w' := by
  have hTB : LaidP w.heap.size w := Lib.tabBelow_of_tabIs hT
  have g := PQ.refl w.heap.size w
  have hls := length_le_sum t.kids
  have hcq : count t = 1 + (t.kids.map count).sum := count_eq t
  replace hk := hk.lt
  have hk0 := hk
  obtain ⟨p, c, rfl, _, _⟩ := id hk
  have hD : ∀ x, (D x ∧ x < w.heap.size) → x < w.heap.size := fun x h => h.2
  generalize hDq : (fun b => D b ∧ b < w.heap.size) = D0 at hk0 hk
  replace hD : ∀ x, D0 x → x < w.heap.size := fun x h => by rw [← hDq] at h; exact hD x h
  refine ret_of_sc (m := 23) func_syntax_Print rfl rfl [(0, True, _)] (sub_cons rfl (sub_nil _)) ?_
  refine sc_seq fun K1 hK1 => ?_
  refine sc_text [1, 3] ?_
  refine sr_box rfl (ev_t rfl) rfl ?_
  intro b1 w1 N1
  have l1 := newge N1 g.size
  have g := g.trans (PQ.of_g (N1.g))
  have hk0 := hk0.grow (N1.g)
  try have hkid := hkid.grow (N1.g)
  try have hP := hP.grow (N1.g)
  have B1 := N1.blk
  refine sr_pu rfl (fun _ => rd_assign ev_c) ?_
  refine sr_sub [(1, _, _), (2, _, _)] (sub_cons rfl (sub_cons rfl (sub_nil _))) ?_
  refine sr_nil (hK1 _ _ ?_)
  refine sc_seq fun K2 hK2 => ?_
  refine sc_seq fun K3 hK3 => ?_
  refine sc_text [0, 1, 3] ?_
  refine sr_rd rfl (rd_loads agg_api_Node (ev_t rfl) rfl (fun _ => B1.row)) ?_
  refine sr_call rfl (rc_call go_syntax_Valid ev_f (args_cons (ev_t rfl) (args_nil)) rfl) (svalid_ok t _ D0 _ (hL.grow g.g) (by have := g.size; omega) hk0 hcn) ?_
  rintro v7 w7 ⟨rfl, g7⟩
  refine ⟨fun _ => g7, ?_⟩
  have g := g.trans (PQ.of_g (g7))
  replace B1 := B1.grow (g7)
  have hk0 := hk0.grow (g7)
  try have hkid := hkid.grow (g7)
  try have hP := hP.grow (g7)
  refine sr_pu rfl (fun _ => rd_not (ev_t rfl)) ?_
  refine sr_sub [(1, _, _), (2, _, _), (8, _, _)] (sub_cons rfl (sub_cons rfl (sub_cons rfl (sub_nil _)))) ?_
  refine sr_nil (hK3 _ _ ?_)
  refine sc_cond (ev_t rfl) (fun h1 => ?_) (fun h1 => ?_)
  · have e : printX t = [] := by unfold printX; simp only [Bool.not_eq_true'] at h1; rw [h1]; rfl
    refine sc_seq fun K4 hK4 => ?_
    refine sc_text [3] ?_
    refine sr_pu rfl (fun _ => rd_assign ev_c) ?_
    refine sr_sub [(1, _, _), (2, _, _)] (sub_cons rfl (sub_cons rfl (sub_nil _))) ?_
    refine sr_nil (hK4 _ _ ?_)
    refine sc_ret (t_ret1 rfl rfl ?_)
    exact ⟨by rw [e], g.g⟩
  have h1 : validB t = true := by simpa using h1
  have e : printX t = prX t.kids := by unfold printX; rw [h1]; rfl
  rw [e] at hlen
  have hds := List.all_eq_true.1 (valid_decl h1)
  refine sc_skip (hK2 _ _ ?_)
  refine sc_sub [(1, _, _), (2, _, _)] (sub_cons rfl (sub_cons rfl (sub_nil _))) ?_
  refine sc_seq fun K5 hK5 => ?_
  refine sc_text [1] ?_
  refine sr_alloc rfl ze_syntax_printer rfl ?_
  intro b3 w3 N3
  have x3_1 := N3.ne B1
  have l3 := newge N3 g.size
  have g := g.trans (PQ.of_g (N3.g))
  replace B1 := B1.grow (N3.g)
  have hk0 := hk0.grow (N3.g)
  try have hkid := hkid.grow (N3.g)
  try have hP := hP.grow (N3.g)
  have B3 := N3.blk
  have hP := prn_new (n0 := w.heap.size) B3 (by have := N3.ge (PQ.g ‹PQ w.heap.size w _›); omega) (hTB.on g.g)
  have hlt3 := N3.blk.lt
  refine sr_nil (hK5 _ _ ?_)
  refine sc_seq fun K6 hK6 => ?_
  refine sc_seq fun K7 hK7 => ?_
  refine sc_text [3, 0, 3, 3] ?_
  refine sr_pu rfl (fun _ => rd_field fo_api_Node_4 (ev_t rfl)) ?_
  refine sr_rd rfl (rd_load one_sl_api_Node (ev_t rfl) (fun _ => B1.at_ rfl)) ?_
  refine sr_pu rfl (fun _ => rd_len el_sl_api_Node (ev_t rfl)) ?_
  refine sr_pu rfl (fun _ => rd_move ev_c) ?_
  refine sr_sub [(2, _, _), (3, _, _), (10, _, _), (11, _, _), (12, _, _)] (sub_cons rfl (sub_cons rfl (sub_cons rfl (sub_cons rfl (sub_cons rfl (sub_nil _)))))) ?_
  refine sr_nil (hK7 _ _ ?_)
  refine sc_block ?_
  refine sc_loop2 (fun (i : Nat) u1 => (i ≤ t.kids.length ∧ Prn w.heap.size b3 (prX (t.kids.take i)) 0 u1 ∧ Kd u1 D0 t.kids (.slice p t.kids.length c)) ∧ PQ w.heap.size w3 u1) [(2, True, _), (3, True, _), (10, True, _), (11, True, _)] (fun (i : Nat) => [(12, True, .int .i64 i)]) (fun (i : Nat) => t.kids.length - i) (0) ⟨⟨Nat.zero_le _, hP, hk0⟩, PQ.refl _ _⟩ (sub_cons rfl (sub_cons rfl (sub_cons rfl (sub_cons rfl (sub_cons rfl (sub_nil _)))))) ?_
  rintro i u1 ⟨hI1, gl1⟩
  have g := g.trans gl1
  obtain ⟨hi, hP, hk0⟩ := hI1
  have hbn := hP.ge
  refine sc_seq fun K8 hK8 => ?_
  refine sc_text [3] ?_
  refine sr_pu rfl (fun _ => rd_lt (ev_t rfl) (ev_t rfl)) ?_
  refine sr_nil (hK8 _ _ ?_)
  refine sc_sub [(2, _, _), (3, _, _), (10, _, _), (11, _, _), (12, _, _), (13, _, _)] (sub_cons rfl (sub_cons rfl (sub_cons rfl (sub_cons rfl (sub_cons rfl (sub_cons rfl (sub_nil _))))))) ?_
  refine sc_seq fun K9 hK9 => ?_
  refine sc_cond (ev_t rfl) (fun h2 => ?_) (fun h2 => ?_)
  · replace h2 : i < t.kids.length := by simp only [decide_eq_true_eq] at h2; omega
    obtain ⟨_, _, hpe, _, hks⟩ := id hk0
    obtain ⟨b9, o9, rfl, hD9, xs, hR, hX⟩ := hks (by omega)
    injection hpe with hpe _ hce
    subst hpe hce
    obtain ⟨p9, c9, hcell, hkid⟩ := kd_at hR hX h2
    have hjs := prX_snoc t.kids h2
    have hjl := prX_le t.kids (i + 1)
    rw [hjs] at hjl
    have hcs := sum_le t.kids h2
    have hde := hds _ (List.getElem_mem h2)
    have hdp := dec_eq (decl_kind hde)
    have hpb : pstB t.kids[i] = true := by unfold pstB; rw [hde]; simp
    rw [hdp] at hjs hjl
    simp only [List.length_append, List.length_cons, List.length_nil, List.flatten_cons, List.flatten_nil, List.append_nil, tabsL, List.length_replicate] at hjl
    refine sc_skip (hK9 _ _ ?_)
    refine sc_sub [(2, _, _), (3, _, _), (10, _, _), (11, _, _), (12, _, _)] (sub_cons rfl (sub_cons rfl (sub_cons rfl (sub_cons rfl (sub_cons rfl (sub_nil _)))))) ?_
    refine sc_seq fun K10 hK10 => ?_
    refine sc_block ?_
    refine sc_seq fun K11 hK11 => ?_
    refine sc_text [3, 0, 1, 2] ?_
    refine sr_pu rfl (fun _ => rd_idx el_sl_api_Node (ev_t rfl) (ev_t rfl) (fun _ => by omega)) ?_
    refine sr_rd rfl (rd_loads agg_api_Node (ev_t rfl) rfl (fun _ => hcell)) ?_
    refine sr_alloc rfl ze_api_Node rfl ?_
    intro b5 w5 N5
    have l5 := newge N5 g.size
    try have l5_gl1 := newge N5 gl1.size
    have g := g.trans (PQ.of_g (N5.g))
    try have gl1 := gl1.trans (PQ.of_g (N5.g))
    have hk0 := hk0.grow (N5.g)
    try have hkid := hkid.grow (N5.g)
    try have hP := hP.grow (N5.g)
    have B5 := N5.blk
    refine sr_store_all rfl sz_api_Node (ev_t rfl) (ev_t rfl) rfl rfl B5 rfl rfl ?_
    intro wS1 hgS1 hzS1
    have C5 := B5
    clear B5
    intro B5
    have g := pq_only g hgS1 (by omega)
    first | replace gl1 := pq_only gl1 hgS1 (by omega) | clear gl1 | skip
    have hP := hP.keep hgS1 C5 rfl (by omega) (by omega)
    have hk0 := hk0.st hgS1 hD (by omega)
    have hkid := hkid.st hgS1 hD (by omega)
    refine sr_sub [(2, _, _), (3, _, _), (5, _, _), (10, _, _), (11, _, _), (12, _, _)] (sub_cons rfl (sub_cons rfl (sub_cons rfl (sub_cons rfl (sub_cons rfl (sub_cons rfl (sub_nil _))))))) ?_
    refine sr_nil (hK11 _ _ ?_)
    refine sc_seq fun K12 hK12 => ?_
    refine sc_text [0, 2] ?_
    refine sr_rd rfl (rd_loads agg_api_Node (ev_t rfl) rfl (fun _ => B5.row)) ?_
    refine sr_call rfl (rc_call go_syntax_printer_stmt ev_f (args_cons (ev_t rfl) (args_cons (ev_t rfl) (args_nil))) rfl) (stmt_q hpb (okNd_kid hok (List.getElem_mem h2)) hkid hD hP (by omega) (by omega)) ?_
    rintro v17 w17 ⟨rfl, hP, g17⟩
    refine ⟨fun h => absurd h (by decide), ?_⟩
    have g := g.trans g17
    try have gl1 := gl1.trans g17
    replace B5 := B5.pq g17 rfl rfl
    have hk0 := hk0.pq g17 hD
    try have hkid := hkid.pq g17 hD
    refine sr_sub [(2, _, _), (3, _, _), (10, _, _), (11, _, _), (12, _, _)] (sub_cons rfl (sub_cons rfl (sub_cons rfl (sub_cons rfl (sub_cons rfl (sub_nil _)))))) ?_
    refine sr_nil (hK12 _ _ ?_)
    refine sc_text [1, 2] ?_
    refine sr_buildSlice [_] rfl el_sl_string ze_string (parts_cons ev_c (parts_nil)) rfl rfl ?_
    intro b18 w18 N18
    have x18_5 := N18.ne B5
    have l18 := newge N18 g.size
    try have l18_gl1 := newge N18 gl1.size
    have g := g.trans (PQ.of_g (N18.g))
    try have gl1 := gl1.trans (PQ.of_g (N18.g))
    replace B5 := B5.grow (N18.g)
    have hk0 := hk0.grow (N18.g)
    try have hkid := hkid.grow (N18.g)
    try have hP := hP.grow (N18.g)
    have B18 := N18.blk
    refine sr_call rfl (rc_call go_syntax_printer_write ev_f (args_cons (ev_t rfl) (args_cons (ev_t rfl) (args_nil))) rfl) (write_q [[10]] hP B18 (by omega) (by first | omega | (simp only [List.length_append, List.length_cons, List.length_nil, List.flatten_cons, List.flatten_nil, List.append_nil, tabsL, List.length_replicate]; omega)) (by rfl) (Nat.le_of_ble_eq_true rfl)) ?_
    rintro v19 w19 ⟨rfl, hP, g19⟩
    refine ⟨fun h => absurd h (by decide), ?_⟩
    have g := g.trans g19
    try have gl1 := gl1.trans g19
    replace B5 := B5.pq g19 rfl rfl
    replace B18 := B18.pq g19 rfl rfl
    have hk0 := hk0.pq g19 hD
    try have hkid := hkid.pq g19 hD
    refine sr_sub [(2, _, _), (3, _, _), (10, _, _), (11, _, _), (12, _, _)] (sub_cons rfl (sub_cons rfl (sub_cons rfl (sub_cons rfl (sub_cons rfl (sub_nil _)))))) ?_
    refine sr_nil (hK10 _ _ ?_)
    refine sc_text [3, 3] ?_
    refine sr_pu rfl (fun _ => rd_add (ev_t rfl) ev_c (fun _ => by omega)) ?_
    refine sr_pu rfl (fun _ => rd_move (ev_t rfl)) ?_
    refine sr_sub [(12, _, _), (2, _, _), (3, _, _), (10, _, _), (11, _, _)] (sub_cons rfl (sub_cons rfl (sub_cons rfl (sub_cons rfl (sub_cons rfl (sub_nil _)))))) ?_
    refine sr_nil (fun a ha => ?_)
    refine ⟨i + 1, ha, ⟨⟨h2, ?_, hk0⟩, gl1⟩, by omega⟩
    rw [hjs]; simpa only [List.append_assoc, List.flatten_cons, List.flatten_nil, List.append_nil] using hP
  replace h2 : i = t.kids.length := by simp only [decide_eq_false_iff_not] at h2; omega
  rw [h2, List.take_length] at hP
  refine sc_exit rfl (hK6 _ _ ?_)
  refine sc_sub [(2, _, _), (3, _, _)] (sub_cons rfl (sub_cons rfl (sub_nil _))) ?_
  refine sc_seq fun K13 hK13 => ?_
  refine sc_text [3, 2, 3] ?_
  refine sr_pu rfl (fun _ => rd_field fo_syntax_printer_0 (ev_t rfl)) ?_
  refine sr_call rfl (rc_call go_strings_Builder_String ev_f (args_cons (ev_t rfl) (args_nil)) rfl) (prn_text hP) ?_
  rintro v22 w22 ⟨rfl, hb22⟩
  refine ⟨fun h => absurd h (by decide), ?_⟩
  refine sr_pu rfl (fun _ => rd_assign (ev_t rfl)) ?_
  refine sr_nil (hK13 _ _ ?_)
  refine sc_ret (t_ret1 rfl rfl ?_)
  exact ⟨by rw [e], Go.RowKit.Below.trans g.g hb22⟩
end Go.Rk
