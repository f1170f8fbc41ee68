/- Merged texts of one road: SynC, SynD. Conditions: each text's own. -/
import Derived.Test.YteicjpedahoilaaDoorB04
set_option linter.unusedSimpArgs false
set_option linter.unusedVariables false
namespace Go.Rk
open Go Go.RowKit
theorem kd_optx {w : World} {D : Nat → Prop} {t : Nd} {p : Option Addr} {c : Nat} (hk : Kd w D t.kids (.slice p t.kids.length c)) (i : Nat) : ∃ p' c', i < t.kids.length → p = some ⟨pb p, po p, none⟩ ∧ RowAt w (pb p) (po p + i * 9) (ndCells (kidAt t i) (.slice p' (kidAt t i).kids.length c')) ∧ Kd w D (kidAt t i).kids (.slice p' (kidAt t i).kids.length c') := by
  by_cases h : i < t.kids.length
  · obtain ⟨h1, p', c', h2, h3⟩ := kd_opt hk h
    exact ⟨p', c', fun _ => ⟨h1, h2, h3⟩⟩
  · exact ⟨none, 0, fun h' => absurd h' h⟩
def lenK (t : Nd) (n : Int) : Bool := decide ((t.kids.length : Int) = n)
def fileVarB (k : Nd) : Bool := decide (k.kind = 6) && (!lenK k 2 || !decide ((kidAt k 1).kind = 9))
def formB (t : Nd) : Bool :=
  bif decide (t.kind = 1) then !(t.kids.any fileVarB) && everyB t (memK [2, 6, 4])
  else bif anyK [2, 5] t.kind then everyB t (memK [3])
  else bif decide (t.kind = 3) then kidsB t [typK]
  else bif decide (t.kind = 4) then kidsB t [memK [5], fun k => typK k || memK [9] k, memK [10]]
  else bif decide (t.kind = 6) then kidsB t [typK, fun k => expK k || memK [9] k]
  else bif decide (t.kind = 10) then everyB t stK
  else bif anyK [11, 17, 21, 28, 31, 33, 35, 36, 37] t.kind then kidsB t [expK]
  else bif anyK [12, 16, 29, 32] t.kind then kidsB t [expK, expK]
  else bif decide (t.kind = 13) then kidsB t [memK [30, 33]]
  else bif anyK [14, 15] t.kind then kidsB t [memK [30]]
  else bif decide (t.kind = 18) then kidsB t [expK, memK [10], memK [10, 18, 9]]
  else bif decide (t.kind = 19) then kidsB t [fun k => expK k || memK [9] k, memK [10]]
  else bif decide (t.kind = 20) then lenK t 0 || kidsB t [expK]
  else bif decide (t.kind = 22) then everyB t (memK [23])
  else bif decide (t.kind = 23) then (lenK t 2 && commB (kidAt t 0)) && memK [10] (kidAt t 1).kind
  else bif decide (t.kind = 30) then decide ((0 : Int) < t.kids.length) && everyB t expK
  else bif decide (t.kind = 24) then lenK t 0 && decide (0 ≤ t.num)
  else bif decide (t.kind = 25) then lenK t 0 && (decide (t.num = 0) || decide (t.num = 1))
  else bif anyK [27, 34, 26, 9, 7, 8] t.kind then lenK t 0
  else bif decide (t.kind = 38) then kidsB t [memK [10]]
  else false
set_option maxHeartbeats 2000000 in
theorem form_ok (t : Nd) (p : Option Addr) (c : Nat) (D : Nat → Prop) (w : World) (hk : Kd w D t.kids (.slice p t.kids.length c)) (hc : t.kids.length ≤ 1000000) (hcc : ∀ i, (kidAt t i).kids.length ≤ 1000000) : Ret PP fn_syntax_form #[ndV t (.slice p t.kids.length c)] w fun v w' => v = .bool (formB t) ∧ G w w' := by
  have g := G.refl w
  have hc0 := hc
  refine ret_of_sc (m := 221) func_syntax_form rfl rfl [(0, True, _)] (sub_cons rfl (sub_nil _)) ?_
  refine sc_seq fun K1 hK1 => ?_
  refine sc_text [1, 3] ?_
  refine sr_box rfl (ev_t rfl) rfl ?_
  intro b1 w1 N1
  have l1 := N1.ge g
  have g := g.trans (N1.g)
  have B1 := N1.blk
  refine sr_pu rfl (fun _ => rd_assign ev_c) ?_
  refine sr_sub [(1, _, _), (2, _, _)] (sub_cons rfl (sub_cons rfl (sub_nil _))) ?_
  refine sr_nil (hK1 _ _ ?_)
  refine sc_seq fun K2 hK2 => ?_
  refine sc_text [1, 1, 1, 1, 3, 3] ?_
  refine sr_buildSlice [_] rfl el_sl_int ze_int (parts_cons ev_c (parts_nil)) rfl rfl ?_
  intro b7 w7 N7
  have x7_1 := N7.ne B1
  have l7 := N7.ge g
  have g := g.trans (N7.g)
  replace B1 := B1.grow (N7.g)
  have B7 := N7.blk
  refine sr_call rfl (rc_call go_syntax_among ev_f (args_cons (ev_t rfl) (args_nil)) rfl) (among_ok [10] _ _ _ _ B7.row (by decide)) ?_
  rintro v8 w8 ⟨hA8, g8⟩
  have hq8 := hA8
  obtain ⟨f8, fs8, cs8, rfl, hgo8, hf8⟩ := hq8
  refine ⟨fun _ => g8, ?_⟩
  have g := g.trans g8
  replace B1 := B1.grow (g8)
  replace B7 := B7.grow (g8)
  have gm8 := G.refl w8
  refine sr_buildSlice [_] rfl el_sl_int ze_int (parts_cons ev_c (parts_nil)) rfl rfl ?_
  intro b9 w9 N9
  have x9_1 := N9.ne B1
  have x9_7 := N9.ne B7
  have l9 := N9.ge g
  try have l9_gm8 := N9.ge gm8
  have g := g.trans (N9.g)
  try have gm8 := gm8.trans (N9.g)
  replace B1 := B1.grow (N9.g)
  replace B7 := B7.grow (N9.g)
  have B9 := N9.blk
  refine sr_call rfl (rc_call go_syntax_among ev_f (args_cons (ev_t rfl) (args_nil)) rfl) (among_ok [3] _ _ _ _ B9.row (by decide)) ?_
  rintro v10 w10 ⟨hA10, g10⟩
  have hq10 := hA10
  obtain ⟨f10, fs10, cs10, rfl, hgo10, hf10⟩ := hq10
  refine ⟨fun _ => g10, ?_⟩
  have g := g.trans g10
  try have gm8 := gm8.trans (g10)
  replace B1 := B1.grow (g10)
  replace B7 := B7.grow (g10)
  replace B9 := B9.grow (g10)
  have gm10 := G.refl w10
  refine sr_pu rfl (fun _ => rd_assign (ev_t rfl)) ?_
  refine sr_pu rfl (fun _ => rd_assign (ev_t rfl)) ?_
  refine sr_sub [(1, _, _), (2, _, _), (3, _, _), (4, _, _)] (sub_cons rfl (sub_cons rfl (sub_cons rfl (sub_cons rfl (sub_nil _))))) ?_
  refine sr_nil (hK2 _ _ ?_)
  refine sc_seq fun K3 hK3 => ?_
  refine sc_seq fun K4 hK4 => ?_
  refine sc_text [3, 0] ?_
  refine sr_pu rfl (fun _ => rd_field fo_api_Node_0 (ev_t rfl)) ?_
  refine sr_rd rfl (rd_load one_int (ev_t rfl) (fun _ => B1.at_ rfl)) ?_
  refine sr_sub [(1, _, _), (2, _, _), (3, _, _), (4, _, _), (12, _, _)] (sub_cons rfl (sub_cons rfl (sub_cons rfl (sub_cons rfl (sub_cons rfl (sub_nil _)))))) ?_
  refine sr_nil (hK4 _ _ ?_)
  refine sc_block ?_
  refine sc_seq fun K5 hK5 => ?_
  refine sc_text [3, 3] ?_
  refine sr_pu rfl (fun _ => rd_eq (ev_t rfl) ev_c) ?_
  refine sr_pu rfl (fun _ => rd_assign (ev_t rfl)) ?_
  refine sr_sub [(1, _, _), (2, _, _), (3, _, _), (4, _, _), (12, _, _), (13, _, _)] (sub_cons rfl (sub_cons rfl (sub_cons rfl (sub_cons rfl (sub_cons rfl (sub_cons rfl (sub_nil _))))))) ?_
  refine sr_nil (hK5 _ _ ?_)
  refine sc_cond (ev_t rfl) (fun h1 => ?_) (fun h1 => ?_)
  · (try simp only [bsimp] at h1)
    refine sc_seq fun K6 hK6 => ?_
    refine sc_seq fun K7 hK7 => ?_
    refine sc_text [3, 0, 3, 3] ?_
    refine sr_pu rfl (fun _ => rd_field fo_api_Node_4 (ev_t rfl)) ?_
    refine sr_rd rfl (rd_load one_sl_api_Node (ev_t rfl) (fun _ => B1.at_ rfl)) ?_
    refine sr_pu rfl (fun _ => rd_len el_sl_api_Node (ev_t rfl)) ?_
    refine sr_pu rfl (fun _ => rd_move ev_c) ?_
    refine sr_sub [(1, _, _), (2, _, _), (16, _, _), (17, _, _), (18, _, _)] (sub_cons rfl (sub_cons rfl (sub_cons rfl (sub_cons rfl (sub_cons rfl (sub_nil _)))))) ?_
    refine sr_nil (hK7 _ _ ?_)
    refine sc_block ?_
    refine sc_loop2 (fun (i : Nat) u1 => (i ≤ t.kids.length ∧ ∀ j, (h : j < t.kids.length) → j < i → fileVarB t.kids[j] = false) ∧ G w10 u1) [(1, True, _), (16, True, _), (17, True, _)] (fun (i : Nat) => [(18, True, .int .i64 i)]) (fun (i : Nat) => t.kids.length - i) (0) ⟨⟨Nat.zero_le _, fun j _ hj => absurd hj (Nat.not_lt_zero j)⟩, G.refl _⟩ (sub_cons rfl (sub_cons rfl (sub_cons rfl (sub_cons rfl (sub_nil _))))) ?_
    rintro i u1 ⟨hI1, gl1⟩
    have g := g.trans gl1
    have gm8 := gm8.trans gl1
    have gm10 := gm10.trans gl1
    replace B1 := B1.grow (gl1)
    replace B7 := B7.grow (gl1)
    replace B9 := B9.grow (gl1)
    refine sc_seq fun K8 hK8 => ?_
    refine sc_text [3] ?_
    refine sr_pu rfl (fun _ => rd_lt (ev_t rfl) (ev_t rfl)) ?_
    refine sr_nil (hK8 _ _ ?_)
    refine sc_sub [(1, _, _), (16, _, _), (17, _, _), (18, _, _), (19, _, _)] (sub_cons rfl (sub_cons rfl (sub_cons rfl (sub_cons rfl (sub_cons rfl (sub_nil _)))))) ?_
    refine sc_seq fun K9 hK9 => ?_
    refine sc_cond (ev_t rfl) (fun h2 => ?_) (fun h2 => ?_)
    · replace h2 : i < t.kids.length := by simp only [decide_eq_true_eq] at h2; omega
      obtain ⟨hpe, p2, c2, hcell, hkid⟩ := kd_opt hk h2
      have hcci := hcc i
      refine sc_skip (hK9 _ _ ?_)
      refine sc_sub [(1, _, _), (16, _, _), (17, _, _), (18, _, _)] (sub_cons rfl (sub_cons rfl (sub_cons rfl (sub_cons rfl (sub_nil _))))) ?_
      refine sc_seq fun K10 hK10 => ?_
      refine sc_block ?_
      refine sc_seq fun K11 hK11 => ?_
      refine sc_text [3, 0, 1, 2] ?_
      refine sr_pu rfl (fun _ => rd_idxq el_sl_api_Node (ev_t rfl) (ev_t rfl) (fun _ => by omega) (fun _ => hpe)) ?_
      refine sr_rd rfl (rd_loads agg_api_Node (ev_t rfl) rfl (fun _ => hcell.grow g)) ?_
      refine sr_alloc rfl ze_api_Node rfl ?_
      intro b6 w6 N6
      have x6_1 := N6.ne B1
      have x6_7 := N6.ne B7
      have x6_9 := N6.ne B9
      have l6 := N6.ge g
      try have l6_gm8 := N6.ge gm8
      try have l6_gm10 := N6.ge gm10
      try have l6_gl1 := N6.ge gl1
      have g := g.trans (N6.g)
      try have gm8 := gm8.trans (N6.g)
      try have gm10 := gm10.trans (N6.g)
      try have gl1 := gl1.trans (N6.g)
      replace B1 := B1.grow (N6.g)
      replace B7 := B7.grow (N6.g)
      replace B9 := B9.grow (N6.g)
      have B6 := N6.blk
      refine sr_store_all rfl sz_api_Node (ev_t rfl) (ev_t rfl) rfl rfl B6 rfl rfl ?_
      intro wS1 hgS1 hzS1
      clear B6
      intro B6
      replace B1 := B1.keep hgS1 (by intro h; injection h with h; first | exact x6_1 h.symm | exact x1_6 h | omega)
      replace B7 := B7.keep hgS1 (by intro h; injection h with h; first | exact x6_7 h.symm | exact x7_6 h | omega)
      replace B9 := B9.keep hgS1 (by intro h; injection h with h; first | exact x6_9 h.symm | exact x9_6 h | omega)
      have g := g_only g hgS1 (by intro k hk; injection hk with hk; omega)
      first | replace gm8 := g_only gm8 hgS1 (by intro k hk; injection hk with hk; omega) | clear gm8 | skip
      first | replace gm10 := g_only gm10 hgS1 (by intro k hk; injection hk with hk; omega) | clear gm10 | skip
      first | replace gl1 := g_only gl1 hgS1 (by intro k hk; injection hk with hk; omega) | clear gl1 | skip
      refine sr_sub [(1, _, _), (6, _, _), (16, _, _), (17, _, _), (18, _, _)] (sub_cons rfl (sub_cons rfl (sub_cons rfl (sub_cons rfl (sub_cons rfl (sub_nil _)))))) ?_
      refine sr_nil (hK11 _ _ ?_)
      refine sc_seq fun K12 hK12 => ?_
      refine sc_text [3, 0, 3, 3, 3, 0, 3, 3, 3, 3, 0, 3, 3, 0, 3, 3, 3] ?_
      refine sr_pu rfl (fun _ => rd_field fo_api_Node_0 (ev_t rfl)) ?_
      refine sr_rd rfl (rd_load one_int (ev_t rfl) (fun _ => B6.at_ rfl)) ?_
      refine sr_pu rfl (fun _ => rd_eq (ev_t rfl) ev_c) ?_
      refine sr_pu rfl (fun _ => rd_move (ev_t rfl)) ?_
      refine sr_pug rfl rfl rfl (fun _ => rd_field fo_api_Node_4 (ev_t rfl)) ?_
      refine sr_rdg rfl rfl rfl (rd_load one_sl_api_Node (ev_u rfl id) (fun _ => B6.at_ rfl)) ?_
      refine sr_pug rfl rfl rfl (fun _ => rd_len el_sl_api_Node (ev_u rfl id)) ?_
      refine sr_pug rfl rfl rfl (fun _ => rd_ne (ev_u rfl id) ev_c) ?_
      refine sr_pug rfl rfl rfl (fun _ => rd_move (ev_u rfl id)) ?_
      refine sr_pug rfl rfl rfl (fun _ => rd_field fo_api_Node_4 (ev_t rfl)) ?_
      refine sr_rdg rfl rfl rfl (rd_load one_sl_api_Node (ev_u rfl id) (fun _ => B6.at_ rfl)) ?_
      refine sr_pug rfl rfl rfl (fun _ => rd_idxq el_sl_api_Node (ev_u rfl id) ev_c (fun hc => by have := hc.2; simp only [Bool.not_eq_false', decide_eq_true_eq] at this; omega) (fun hc => (kd_opt hkid (i := 1) (by have := hc.2; simp only [Bool.not_eq_false', decide_eq_true_eq] at this; omega)).1)) ?_
      refine sr_pug rfl rfl rfl (fun _ => rd_field fo_api_Node_0 (ev_u rfl id)) ?_
      refine sr_rdg rfl rfl rfl (rd_load one_int (ev_u rfl id) (fun hc => by
      obtain ⟨_, p', c', hcell', _⟩ := kd_opt hkid (i := 1) (by have := hc.2; simp only [Bool.not_eq_false', decide_eq_true_eq] at this; omega)
      exact (hcell'.grow g) 0 _ rfl)) ?_
      refine sr_pug rfl rfl rfl (fun _ => rd_ne (ev_u rfl id) ev_c) ?_
      refine sr_pug rfl rfl rfl (fun _ => rd_pick_or (ev_u rfl id) (ev_u rfl id)) ?_
      refine sr_pu rfl (fun _ => rd_pick_and (ev_t rfl) (ev_u rfl id)) ?_
      refine sr_sub [(1, _, _), (16, _, _), (17, _, _), (18, _, _), (38, _, _)] (sub_cons rfl (sub_cons rfl (sub_cons rfl (sub_cons rfl (sub_cons rfl (sub_nil _)))))) ?_
      refine sr_nil (hK12 _ _ ?_)
      refine sc_cond (ev_t rfl) (fun h3 => ?_) (fun h3 => ?_)
      · replace h3 : (fileVarB (kidAt t i)) = true := h3
        have hany : t.kids.any fileVarB = true := List.any_eq_true.2 ⟨_, List.getElem_mem h2, by rw [← kidAt_eq h2]; exact h3⟩
        refine sc_seq fun K13 hK13 => ?_
        refine sc_text [3] ?_
        refine sr_pu rfl (fun _ => rd_assign ev_c) ?_
        refine sr_sub [(1, _, _), (2, _, _), (16, _, _), (17, _, _), (18, _, _)] (sub_cons rfl (sub_cons rfl (sub_cons rfl (sub_cons rfl (sub_cons rfl (sub_nil _)))))) ?_
        refine sr_nil (hK13 _ _ ?_)
        refine sc_ret (t_ret1 rfl rfl ?_)
        refine ⟨congrArg Value.bool ?_, g⟩
        unfold formB; rw [h1, hany]; rfl
      replace h3 : (fileVarB (kidAt t i)) = false := h3
      refine sc_skip (hK10 _ _ ?_)
      refine sc_sub [(1, _, _), (16, _, _), (17, _, _), (18, _, _)] (sub_cons rfl (sub_cons rfl (sub_cons rfl (sub_cons rfl (sub_nil _))))) ?_
      refine sc_text [3, 3] ?_
      refine sr_pu rfl (fun _ => rd_add (ev_t rfl) ev_c (fun _ => by omega)) ?_
      refine sr_pu rfl (fun _ => rd_move (ev_t rfl)) ?_
      refine sr_sub [(18, _, _), (1, _, _), (16, _, _), (17, _, _)] (sub_cons rfl (sub_cons rfl (sub_cons rfl (sub_cons rfl (sub_nil _))))) ?_
      refine sr_nil (fun a ha => ?_)
      refine ⟨i + 1, ha, ⟨⟨h2, fun j h hj => ?_⟩, gl1⟩, by omega⟩
      by_cases e : j = i
      · subst e; rw [← kidAt_eq h2]; exact h3
      · exact hI1.2 j h (by omega)
    replace h2 : i = t.kids.length := by simp only [decide_eq_false_iff_not] at h2; omega
    have hnone : t.kids.any fileVarB = false := by
      rw [List.any_eq_false]; intro x hx
      obtain ⟨j, hj, rfl⟩ := List.getElem_of_mem hx
      rw [hI1.2 j hj (by omega)]; simp
    refine sc_exit rfl (hK6 _ _ ?_)
    refine sc_sub [(1, _, _)] (sub_cons rfl (sub_nil _)) ?_
    refine sc_seq fun K14 hK14 => ?_
    refine sc_draw [0, 1, 1, 1, 3] [true, true, true, true, true] [0, 0, 2, 7, 15] mix (by kernel_rfl) ?_
    have g := g.trans (G.drew _)
    try have gm8 := gm8.trans (G.drew _)
    try have gm10 := gm10.trans (G.drew _)
    try have gl1 := gl1.trans (G.drew _)
    replace B1 := B1.grow (G.drew _)
    replace B7 := B7.grow (G.drew _)
    replace B9 := B9.grow (G.drew _)
    refine sr_rd rfl (rd_loads agg_api_Node (ev_t rfl) rfl (fun _ => B1.row)) ?_
    refine sr_buildSlice [_, _, _] rfl el_sl_int ze_int (parts_cons ev_c (parts_cons ev_c (parts_cons ev_c (parts_nil)))) rfl rfl ?_
    intro b41 w41 N41
    have x41_1 := N41.ne B1
    have x41_7 := N41.ne B7
    have x41_9 := N41.ne B9
    have l41 := N41.ge g
    try have l41_gm8 := N41.ge gm8
    try have l41_gm10 := N41.ge gm10
    try have l41_gl1 := N41.ge gl1
    have g := g.trans (N41.g)
    try have gm8 := gm8.trans (N41.g)
    try have gm10 := gm10.trans (N41.g)
    try have gl1 := gl1.trans (N41.g)
    replace B1 := B1.grow (N41.g)
    replace B7 := B7.grow (N41.g)
    replace B9 := B9.grow (N41.g)
    have B41 := N41.blk
    refine sr_call rfl (rc_call go_syntax_among ev_f (args_cons (ev_t rfl) (args_nil)) rfl) (among_ok [2, 6, 4] _ _ _ _ B41.row (by decide)) ?_
    rintro v42 w42 ⟨hA42, g42⟩
    have hq42 := hA42
    obtain ⟨f42, fs42, cs42, rfl, hgo42, hf42⟩ := hq42
    refine ⟨fun _ => g42, ?_⟩
    have g := g.trans g42
    try have gm8 := gm8.trans (g42)
    try have gm10 := gm10.trans (g42)
    try have gl1 := gl1.trans (g42)
    replace B1 := B1.grow (g42)
    replace B7 := B7.grow (g42)
    replace B9 := B9.grow (g42)
    replace B41 := B41.grow (g42)
    have gm42 := G.refl w42
    refine sr_pure rfl (rc_call go_syntax_every ev_f (args_cons (ev_t rfl) (args_cons ev_c (args_cons (ev_t rfl) (args_nil)))) rfl) (every_ok t _ _ D (memK [2, 6, 4]) _ _ (hk.grow g) (hA42.grow gm42) hc) (fun w43 g43 => ?_)
    have g := g.trans (g43)
    try have gm8 := gm8.trans (g43)
    try have gm10 := gm10.trans (g43)
    try have gl1 := gl1.trans (g43)
    try have gm42 := gm42.trans (g43)
    replace B1 := B1.grow (g43)
    replace B7 := B7.grow (g43)
    replace B9 := B9.grow (g43)
    replace B41 := B41.grow (g43)
    refine sr_pu rfl (fun _ => rd_assign (ev_t rfl)) ?_
    refine sr_nil (hK14 _ _ ?_)
    refine sc_sub [(1, _, _), (2, _, _), (40, _, _), (41, _, _), (42, _, _), (43, _, _)] (sub_cons rfl (sub_cons rfl (sub_cons rfl (sub_cons rfl (sub_cons rfl (sub_cons rfl (sub_nil _))))))) ?_
    refine sc_ret (t_ret1 rfl rfl ?_)
    refine ⟨congrArg Value.bool ?_, g⟩
    unfold formB; rw [h1, hnone]; rfl
  (try simp only [bsimp] at h1)
  refine sc_seq fun K15 hK15 => ?_
  refine sc_seq fun K16 hK16 => ?_
  refine sc_text [3, 3] ?_
  refine sr_pu rfl (fun _ => rd_eq (ev_t rfl) ev_c) ?_
  refine sr_pu rfl (fun _ => rd_assign (ev_t rfl)) ?_
  refine sr_sub [(1, _, _), (2, _, _), (3, _, _), (4, _, _), (12, _, _), (44, _, _)] (sub_cons rfl (sub_cons rfl (sub_cons rfl (sub_cons rfl (sub_cons rfl (sub_cons rfl (sub_nil _))))))) ?_
  refine sr_nil (hK16 _ _ ?_)
  refine' sc_or [(1, _, _), (2, _, _), (3, _, _), (4, _, _), (12, _, _)] (sub_cons rfl (sub_cons rfl (sub_cons rfl (sub_cons rfl (sub_cons rfl (sub_cons rfl (sub_nil _))))))) rfl (fun hb4 => ?y4) (hK15 _ _ ?n4)
  case y4 =>
   refine sc_text [3, 3] ?_
   refine sr_pu rfl (fun _ => rd_eq (ev_t rfl) ev_c) ?_
   refine sr_pu rfl (fun _ => rd_assign (ev_t rfl)) ?_
   refine sr_sub [(44, _, _), (1, _, _), (2, _, _), (3, _, _), (4, _, _), (12, _, _)] (sub_cons rfl (sub_cons rfl (sub_cons rfl (sub_cons rfl (sub_cons rfl (sub_cons rfl (sub_nil _))))))) ?_
   exact sr_nil (fun a ha => ⟨ha, rfl⟩)
  case n4 =>
   refine sc_cond (ev_t rfl) (fun h5 => ?_) (fun h5 => ?_)
   · (try simp only [bsimp] at h5)
     refine sc_seq fun K17 hK17 => ?_
     refine sc_text [0, 3, 1, 3] ?_
     refine sr_rd rfl (rd_loads agg_api_Node (ev_t rfl) rfl (fun _ => B1.row)) ?_
     refine sr_pu rfl (fun _ => rd_move (ev_t rfl)) ?_
     refine sr_pure rfl (rc_call go_syntax_every ev_f (args_cons (ev_t rfl) (args_cons ev_c (args_cons (ev_t rfl) (args_nil)))) rfl) (every_ok t _ _ D (memK [3]) _ _ (hk.grow g) (hA10.grow gm10) hc) (fun w49 g49 => ?_)
     have g := g.trans (g49)
     try have gm8 := gm8.trans (g49)
     try have gm10 := gm10.trans (g49)
     replace B1 := B1.grow (g49)
     replace B7 := B7.grow (g49)
     replace B9 := B9.grow (g49)
     refine sr_pu rfl (fun _ => rd_assign (ev_t rfl)) ?_
     refine sr_sub [(2, _, _)] (sub_cons rfl (sub_nil _)) ?_
     refine sr_nil (hK17 _ _ ?_)
     refine sc_ret (t_ret1 rfl rfl ?_)
     refine ⟨congrArg Value.bool ?_, g⟩
     unfold formB; simp only [anyK, h1, h5, cond_true, cond_false] <;> rfl
   (try simp only [bsimp] at h5)
   refine sc_seq fun K18 hK18 => ?_
   refine sc_text [3, 3] ?_
   refine sr_pu rfl (fun _ => rd_eq (ev_t rfl) ev_c) ?_
   refine sr_pu rfl (fun _ => rd_assign (ev_t rfl)) ?_
   refine sr_sub [(1, _, _), (2, _, _), (3, _, _), (12, _, _), (50, _, _)] (sub_cons rfl (sub_cons rfl (sub_cons rfl (sub_cons rfl (sub_cons rfl (sub_nil _)))))) ?_
   refine sr_nil (hK18 _ _ ?_)
   refine sc_cond (ev_t rfl) (fun h6 => ?_) (fun h6 => ?_)
   · (try simp only [bsimp] at h6)
     refine sc_seq fun K19 hK19 => ?_
     refine sc_text [0, 1, 1, 3] ?_
     refine sr_rd rfl (rd_loads agg_api_Node (ev_t rfl) rfl (fun _ => B1.row)) ?_
     refine sr_buildSlice [_] rfl el_sl_func_int_bool ze_func_int_bool (parts_cons ev_f (parts_nil)) rfl rfl ?_
     intro b53 w53 N53
     have x53_1 := N53.ne B1
     have x53_7 := N53.ne B7
     have x53_9 := N53.ne B9
     have l53 := N53.ge g
     try have l53_gm8 := N53.ge gm8
     try have l53_gm10 := N53.ge gm10
     have g := g.trans (N53.g)
     try have gm8 := gm8.trans (N53.g)
     try have gm10 := gm10.trans (N53.g)
     replace B1 := B1.grow (N53.g)
     replace B7 := B7.grow (N53.g)
     replace B9 := B9.grow (N53.g)
     have B53 := N53.blk
     refine sr_pure rfl (rc_call go_syntax_kids ev_f (args_cons (ev_t rfl) (args_cons (ev_t rfl) (args_nil))) rfl) (kids_ok t _ _ D [typK] _ _ _ _ _ (hk.grow g) rfl B53.row (fun i h => by match i, h with | 0, _ => exact fnV_of go_syntax_typed typed_ok _) hc) (fun w54 g54 => ?_)
     have g := g.trans (g54)
     try have gm8 := gm8.trans (g54)
     try have gm10 := gm10.trans (g54)
     replace B1 := B1.grow (g54)
     replace B7 := B7.grow (g54)
     replace B9 := B9.grow (g54)
     replace B53 := B53.grow (g54)
     refine sr_pu rfl (fun _ => rd_assign (ev_t rfl)) ?_
     refine sr_sub [(2, _, _)] (sub_cons rfl (sub_nil _)) ?_
     refine sr_nil (hK19 _ _ ?_)
     refine sc_ret (t_ret1 rfl rfl ?_)
     refine ⟨congrArg Value.bool ?_, g⟩
     unfold formB; simp only [anyK, h1, h5, h6, cond_true, cond_false] <;> rfl
   (try simp only [bsimp] at h6)
   refine sc_seq fun K20 hK20 => ?_
   refine sc_text [3, 3] ?_
   refine sr_pu rfl (fun _ => rd_eq (ev_t rfl) ev_c) ?_
   refine sr_pu rfl (fun _ => rd_assign (ev_t rfl)) ?_
   refine sr_sub [(1, _, _), (2, _, _), (3, _, _), (12, _, _), (55, _, _)] (sub_cons rfl (sub_cons rfl (sub_cons rfl (sub_cons rfl (sub_cons rfl (sub_nil _)))))) ?_
   refine sr_nil (hK20 _ _ ?_)
   refine sc_cond (ev_t rfl) (fun h7 => ?_) (fun h7 => ?_)
   · (try simp only [bsimp] at h7)
     refine sc_seq fun K21 hK21 => ?_
     refine sc_drawT none [0, 1, 1, 1, 1, 3, 1, 1, 3] [0, 0, 2, 0, 14, 0, 62, 127, 255] mix (by kernel_rfl) [0, 1, 2, 3, 4, 5, 6, 7, 8] rfl ?_
     have g := g.trans (G.drew _)
     try have gm8 := gm8.trans (G.drew _)
     try have gm10 := gm10.trans (G.drew _)
     replace B1 := B1.grow (G.drew _)
     replace B7 := B7.grow (G.drew _)
     replace B9 := B9.grow (G.drew _)
     refine st_rd (L' := [1, 2, 3, 4, 5, 6, 7, 8]) 0 rfl rfl rfl (fun w1 hx => rd_loads agg_api_Node (ev_t rfl) rfl (fun _ => (B1.keep hx (by intro h; first | (injection h with h; omega) | cases h)).row)) ?_
     refine st_pu (L' := [1, 2, 3, 4, 6, 7, 8]) 5 rfl rfl rfl (fun _ => rd_move (ev_t rfl)) ?_
     refine st_eff2 1 3 rfl rfl ?_ ?_
     · refine ste_of_sr (L' := [2, 3, 4, 6, 7, 8]) [0, 1, 1, 1, 1, 3, 1, 1, 3] rfl rfl rfl ?_
       refine sr_buildSlice [_] rfl el_sl_int ze_int (parts_cons ev_c (parts_nil)) rfl rfl ?_
       intro b58 w58 N58
       have x58_1 := N58.ne B1
       have x58_7 := N58.ne B7
       have x58_9 := N58.ne B9
       have l58 := N58.ge g
       try have l58_gm8 := N58.ge gm8
       try have l58_gm10 := N58.ge gm10
       have g := g.trans (N58.g)
       try have gm8 := gm8.trans (N58.g)
       try have gm10 := gm10.trans (N58.g)
       replace B1 := B1.grow (N58.g)
       replace B7 := B7.grow (N58.g)
       replace B9 := B9.grow (N58.g)
       have B58 := N58.blk
       refine sr_nilT ((N58.g).only _) ?_
       refine st_eff2 2 3 rfl rfl ?_ ?_
       · refine ste_of_sr (L' := [3, 4, 6, 7, 8]) [0, 1, 1, 1, 1, 3, 1, 1, 3] rfl rfl rfl ?_
         refine sr_call rfl (rc_call go_syntax_among ev_f (args_cons (ev_t rfl) (args_nil)) rfl) (among_ok [5] _ _ _ _ B58.row (by decide)) ?_
         rintro v59 w59 ⟨hA59, g59⟩
         have hq59 := hA59
         obtain ⟨f59, fs59, cs59, rfl, hgo59, hf59⟩ := hq59
         refine ⟨fun _ => g59, ?_⟩
         have g := g.trans g59
         try have gm8 := gm8.trans (g59)
         try have gm10 := gm10.trans (g59)
         replace B1 := B1.grow (g59)
         replace B7 := B7.grow (g59)
         replace B9 := B9.grow (g59)
         replace B58 := B58.grow (g59)
         have gm59 := G.refl w59
         refine sr_nilT ((g59).only _) ?_
         refine st_eff1 3 rfl rfl ?_
         refine ste_of_sr (L' := [4, 6, 7, 8]) [0, 1, 1, 1, 1, 3, 1, 1, 3] rfl rfl rfl ?_
         refine sr_buildSlice [_] rfl el_sl_int ze_int (parts_cons ev_c (parts_nil)) rfl rfl ?_
         intro b60 w60 N60
         have x60_1 := N60.ne B1
         have x60_7 := N60.ne B7
         have x60_9 := N60.ne B9
         have x60_58 := N60.ne B58
         have l60 := N60.ge g
         try have l60_gm8 := N60.ge gm8
         try have l60_gm10 := N60.ge gm10
         try have l60_gm59 := N60.ge gm59
         have g := g.trans (N60.g)
         try have gm8 := gm8.trans (N60.g)
         try have gm10 := gm10.trans (N60.g)
         try have gm59 := gm59.trans (N60.g)
         replace B1 := B1.grow (N60.g)
         replace B7 := B7.grow (N60.g)
         replace B9 := B9.grow (N60.g)
         replace B58 := B58.grow (N60.g)
         have B60 := N60.blk
         refine sr_nilT ((N60.g).only _) ?_
         refine st_eff1 4 rfl rfl ?_
         refine ste_of_sr (L' := [6, 7, 8]) [0, 1, 1, 1, 1, 3, 1, 1, 3] rfl rfl rfl ?_
         refine sr_call rfl (rc_call go_syntax_either ev_f (args_cons ev_f (args_cons (ev_t rfl) (args_nil))) rfl) (either_ok typK [9] _ _ _ _ _ (fnV_of go_syntax_typed typed_ok _) B60.row (by decide)) ?_
         rintro v61 w61 ⟨hA61, g61⟩
         have hq61 := hA61
         obtain ⟨f61, fs61, cs61, rfl, hgo61, hf61⟩ := hq61
         refine ⟨fun _ => g61, ?_⟩
         have g := g.trans g61
         try have gm8 := gm8.trans (g61)
         try have gm10 := gm10.trans (g61)
         try have gm59 := gm59.trans (g61)
         replace B1 := B1.grow (g61)
         replace B7 := B7.grow (g61)
         replace B9 := B9.grow (g61)
         replace B58 := B58.grow (g61)
         replace B60 := B60.grow (g61)
         have gm61 := G.refl w61
         refine sr_nilT ((g61).only _) ?_
         refine st_eff1 6 rfl rfl ?_
         refine ste_of_sr (L' := [7, 8]) [0, 1, 1, 1, 1, 3, 1, 1, 3] rfl rfl rfl ?_
         refine sr_buildSlice [_, _, _] rfl el_sl_func_int_bool ze_func_int_bool (parts_cons (ev_t rfl) (parts_cons (ev_t rfl) (parts_cons (ev_t rfl) (parts_nil)))) rfl rfl ?_
         intro b63 w63 N63
         have x63_1 := N63.ne B1
         have x63_7 := N63.ne B7
         have x63_9 := N63.ne B9
         have x63_58 := N63.ne B58
         have x63_60 := N63.ne B60
         have l63 := N63.ge g
         try have l63_gm8 := N63.ge gm8
         try have l63_gm10 := N63.ge gm10
         try have l63_gm59 := N63.ge gm59
         try have l63_gm61 := N63.ge gm61
         have g := g.trans (N63.g)
         try have gm8 := gm8.trans (N63.g)
         try have gm10 := gm10.trans (N63.g)
         try have gm59 := gm59.trans (N63.g)
         try have gm61 := gm61.trans (N63.g)
         replace B1 := B1.grow (N63.g)
         replace B7 := B7.grow (N63.g)
         replace B9 := B9.grow (N63.g)
         replace B58 := B58.grow (N63.g)
         replace B60 := B60.grow (N63.g)
         have B63 := N63.blk
         refine sr_nilT ((N63.g).only _) ?_
         refine st_eff1 7 rfl rfl ?_
         refine ste_of_sr (L' := [8]) [0, 1, 1, 1, 1, 3, 1, 1, 3] rfl rfl rfl ?_
         refine sr_pure rfl (rc_call go_syntax_kids ev_f (args_cons (ev_t rfl) (args_cons (ev_t rfl) (args_nil))) rfl) (kids_ok t _ _ D [memK [5], fun k => typK k || memK [9] k, memK [10]] _ _ _ _ _ (hk.grow g) rfl B63.row (fun i h => by match i, h with | 0, _ => exact hA59.grow gm59 | 1, _ => exact hA61.grow gm61 | 2, _ => exact hA8.grow gm8) hc) (fun w64 g64 => ?_)
         have g := g.trans (g64)
         try have gm8 := gm8.trans (g64)
         try have gm10 := gm10.trans (g64)
         try have gm59 := gm59.trans (g64)
         try have gm61 := gm61.trans (g64)
         replace B1 := B1.grow (g64)
         replace B7 := B7.grow (g64)
         replace B9 := B9.grow (g64)
         replace B58 := B58.grow (g64)
         replace B60 := B60.grow (g64)
         replace B63 := B63.grow (g64)
         refine sr_nilT ((g64).only _) ?_
         refine st_pu (L' := []) 8 rfl rfl rfl (fun _ => rd_assign (ev_t rfl)) ?_
         refine st_sub [(2, _, _)] (sub_cons rfl (sub_nil _)) ?_
         refine st_nil (hK21 _ _ ?_)
         refine sc_ret (t_ret1 rfl rfl ?_)
         refine ⟨congrArg Value.bool ?_, g⟩
         unfold formB; simp only [anyK, h1, h5, h6, h7, cond_true, cond_false] <;> rfl
       · refine ste_of_sr (L' := [2, 4, 6, 7, 8]) [0, 1, 1, 1, 1, 3, 1, 1, 3] rfl rfl rfl ?_
         refine sr_buildSlice [_] rfl el_sl_int ze_int (parts_cons ev_c (parts_nil)) rfl rfl ?_
         intro b60 w60 N60
         have x60_1 := N60.ne B1
         have x60_7 := N60.ne B7
         have x60_9 := N60.ne B9
         have x60_58 := N60.ne B58
         have l60 := N60.ge g
         try have l60_gm8 := N60.ge gm8
         try have l60_gm10 := N60.ge gm10
         have g := g.trans (N60.g)
         try have gm8 := gm8.trans (N60.g)
         try have gm10 := gm10.trans (N60.g)
         replace B1 := B1.grow (N60.g)
         replace B7 := B7.grow (N60.g)
         replace B9 := B9.grow (N60.g)
         replace B58 := B58.grow (N60.g)
         have B60 := N60.blk
         refine sr_nilT ((N60.g).only _) ?_
         refine st_eff1 2 rfl rfl ?_
         refine ste_of_sr (L' := [4, 6, 7, 8]) [0, 1, 1, 1, 1, 3, 1, 1, 3] rfl rfl rfl ?_
         refine sr_call rfl (rc_call go_syntax_among ev_f (args_cons (ev_t rfl) (args_nil)) rfl) (among_ok [5] _ _ _ _ B58.row (by decide)) ?_
         rintro v59 w59 ⟨hA59, g59⟩
         have hq59 := hA59
         obtain ⟨f59, fs59, cs59, rfl, hgo59, hf59⟩ := hq59
         refine ⟨fun _ => g59, ?_⟩
         have g := g.trans g59
         try have gm8 := gm8.trans (g59)
         try have gm10 := gm10.trans (g59)
         replace B1 := B1.grow (g59)
         replace B7 := B7.grow (g59)
         replace B9 := B9.grow (g59)
         replace B58 := B58.grow (g59)
         replace B60 := B60.grow (g59)
         have gm59 := G.refl w59
         refine sr_nilT ((g59).only _) ?_
         refine st_eff1 4 rfl rfl ?_
         refine ste_of_sr (L' := [6, 7, 8]) [0, 1, 1, 1, 1, 3, 1, 1, 3] rfl rfl rfl ?_
         refine sr_call rfl (rc_call go_syntax_either ev_f (args_cons ev_f (args_cons (ev_t rfl) (args_nil))) rfl) (either_ok typK [9] _ _ _ _ _ (fnV_of go_syntax_typed typed_ok _) B60.row (by decide)) ?_
         rintro v61 w61 ⟨hA61, g61⟩
         have hq61 := hA61
         obtain ⟨f61, fs61, cs61, rfl, hgo61, hf61⟩ := hq61
         refine ⟨fun _ => g61, ?_⟩
         have g := g.trans g61
         try have gm8 := gm8.trans (g61)
         try have gm10 := gm10.trans (g61)
         try have gm59 := gm59.trans (g61)
         replace B1 := B1.grow (g61)
         replace B7 := B7.grow (g61)
         replace B9 := B9.grow (g61)
         replace B58 := B58.grow (g61)
         replace B60 := B60.grow (g61)
         have gm61 := G.refl w61
         refine sr_nilT ((g61).only _) ?_
         refine st_eff1 6 rfl rfl ?_
         refine ste_of_sr (L' := [7, 8]) [0, 1, 1, 1, 1, 3, 1, 1, 3] rfl rfl rfl ?_
         refine sr_buildSlice [_, _, _] rfl el_sl_func_int_bool ze_func_int_bool (parts_cons (ev_t rfl) (parts_cons (ev_t rfl) (parts_cons (ev_t rfl) (parts_nil)))) rfl rfl ?_
         intro b63 w63 N63
         have x63_1 := N63.ne B1
         have x63_7 := N63.ne B7
         have x63_9 := N63.ne B9
         have x63_58 := N63.ne B58
         have x63_60 := N63.ne B60
         have l63 := N63.ge g
         try have l63_gm8 := N63.ge gm8
         try have l63_gm10 := N63.ge gm10
         try have l63_gm59 := N63.ge gm59
         try have l63_gm61 := N63.ge gm61
         have g := g.trans (N63.g)
         try have gm8 := gm8.trans (N63.g)
         try have gm10 := gm10.trans (N63.g)
         try have gm59 := gm59.trans (N63.g)
         try have gm61 := gm61.trans (N63.g)
         replace B1 := B1.grow (N63.g)
         replace B7 := B7.grow (N63.g)
         replace B9 := B9.grow (N63.g)
         replace B58 := B58.grow (N63.g)
         replace B60 := B60.grow (N63.g)
         have B63 := N63.blk
         refine sr_nilT ((N63.g).only _) ?_
         refine st_eff1 7 rfl rfl ?_
         refine ste_of_sr (L' := [8]) [0, 1, 1, 1, 1, 3, 1, 1, 3] rfl rfl rfl ?_
         refine sr_pure rfl (rc_call go_syntax_kids ev_f (args_cons (ev_t rfl) (args_cons (ev_t rfl) (args_nil))) rfl) (kids_ok t _ _ D [memK [5], fun k => typK k || memK [9] k, memK [10]] _ _ _ _ _ (hk.grow g) rfl B63.row (fun i h => by match i, h with | 0, _ => exact hA59.grow gm59 | 1, _ => exact hA61.grow gm61 | 2, _ => exact hA8.grow gm8) hc) (fun w64 g64 => ?_)
         have g := g.trans (g64)
         try have gm8 := gm8.trans (g64)
         try have gm10 := gm10.trans (g64)
         try have gm59 := gm59.trans (g64)
         try have gm61 := gm61.trans (g64)
         replace B1 := B1.grow (g64)
         replace B7 := B7.grow (g64)
         replace B9 := B9.grow (g64)
         replace B58 := B58.grow (g64)
         replace B60 := B60.grow (g64)
         replace B63 := B63.grow (g64)
         refine sr_nilT ((g64).only _) ?_
         refine st_pu (L' := []) 8 rfl rfl rfl (fun _ => rd_assign (ev_t rfl)) ?_
         refine st_sub [(2, _, _)] (sub_cons rfl (sub_nil _)) ?_
         refine st_nil (hK21 _ _ ?_)
         refine sc_ret (t_ret1 rfl rfl ?_)
         refine ⟨congrArg Value.bool ?_, g⟩
         unfold formB; simp only [anyK, h1, h5, h6, h7, cond_true, cond_false] <;> rfl
     · refine ste_of_sr (L' := [1, 2, 4, 6, 7, 8]) [0, 1, 1, 1, 1, 3, 1, 1, 3] rfl rfl rfl ?_
       refine sr_buildSlice [_] rfl el_sl_int ze_int (parts_cons ev_c (parts_nil)) rfl rfl ?_
       intro b60 w60 N60
       have x60_1 := N60.ne B1
       have x60_7 := N60.ne B7
       have x60_9 := N60.ne B9
       have l60 := N60.ge g
       try have l60_gm8 := N60.ge gm8
       try have l60_gm10 := N60.ge gm10
       have g := g.trans (N60.g)
       try have gm8 := gm8.trans (N60.g)
       try have gm10 := gm10.trans (N60.g)
       replace B1 := B1.grow (N60.g)
       replace B7 := B7.grow (N60.g)
       replace B9 := B9.grow (N60.g)
       have B60 := N60.blk
       refine sr_nilT ((N60.g).only _) ?_
       refine st_eff1 1 rfl rfl ?_
       refine ste_of_sr (L' := [2, 4, 6, 7, 8]) [0, 1, 1, 1, 1, 3, 1, 1, 3] rfl rfl rfl ?_
       refine sr_buildSlice [_] rfl el_sl_int ze_int (parts_cons ev_c (parts_nil)) rfl rfl ?_
       intro b58 w58 N58
       have x58_1 := N58.ne B1
       have x58_7 := N58.ne B7
       have x58_9 := N58.ne B9
       have x58_60 := N58.ne B60
       have l58 := N58.ge g
       try have l58_gm8 := N58.ge gm8
       try have l58_gm10 := N58.ge gm10
       have g := g.trans (N58.g)
       try have gm8 := gm8.trans (N58.g)
       try have gm10 := gm10.trans (N58.g)
       replace B1 := B1.grow (N58.g)
       replace B7 := B7.grow (N58.g)
       replace B9 := B9.grow (N58.g)
       replace B60 := B60.grow (N58.g)
       have B58 := N58.blk
       refine sr_nilT ((N58.g).only _) ?_
       refine st_eff1 2 rfl rfl ?_
       refine ste_of_sr (L' := [4, 6, 7, 8]) [0, 1, 1, 1, 1, 3, 1, 1, 3] rfl rfl rfl ?_
       refine sr_call rfl (rc_call go_syntax_among ev_f (args_cons (ev_t rfl) (args_nil)) rfl) (among_ok [5] _ _ _ _ B58.row (by decide)) ?_
       rintro v59 w59 ⟨hA59, g59⟩
       have hq59 := hA59
       obtain ⟨f59, fs59, cs59, rfl, hgo59, hf59⟩ := hq59
       refine ⟨fun _ => g59, ?_⟩
       have g := g.trans g59
       try have gm8 := gm8.trans (g59)
       try have gm10 := gm10.trans (g59)
       replace B1 := B1.grow (g59)
       replace B7 := B7.grow (g59)
       replace B9 := B9.grow (g59)
       replace B60 := B60.grow (g59)
       replace B58 := B58.grow (g59)
       have gm59 := G.refl w59
       refine sr_nilT ((g59).only _) ?_
       refine st_eff1 4 rfl rfl ?_
       refine ste_of_sr (L' := [6, 7, 8]) [0, 1, 1, 1, 1, 3, 1, 1, 3] rfl rfl rfl ?_
       refine sr_call rfl (rc_call go_syntax_either ev_f (args_cons ev_f (args_cons (ev_t rfl) (args_nil))) rfl) (either_ok typK [9] _ _ _ _ _ (fnV_of go_syntax_typed typed_ok _) B60.row (by decide)) ?_
       rintro v61 w61 ⟨hA61, g61⟩
       have hq61 := hA61
       obtain ⟨f61, fs61, cs61, rfl, hgo61, hf61⟩ := hq61
       refine ⟨fun _ => g61, ?_⟩
       have g := g.trans g61
       try have gm8 := gm8.trans (g61)
       try have gm10 := gm10.trans (g61)
       try have gm59 := gm59.trans (g61)
       replace B1 := B1.grow (g61)
       replace B7 := B7.grow (g61)
       replace B9 := B9.grow (g61)
       replace B60 := B60.grow (g61)
       replace B58 := B58.grow (g61)
       have gm61 := G.refl w61
       refine sr_nilT ((g61).only _) ?_
       refine st_eff1 6 rfl rfl ?_
       refine ste_of_sr (L' := [7, 8]) [0, 1, 1, 1, 1, 3, 1, 1, 3] rfl rfl rfl ?_
       refine sr_buildSlice [_, _, _] rfl el_sl_func_int_bool ze_func_int_bool (parts_cons (ev_t rfl) (parts_cons (ev_t rfl) (parts_cons (ev_t rfl) (parts_nil)))) rfl rfl ?_
       intro b63 w63 N63
       have x63_1 := N63.ne B1
       have x63_7 := N63.ne B7
       have x63_9 := N63.ne B9
       have x63_60 := N63.ne B60
       have x63_58 := N63.ne B58
       have l63 := N63.ge g
       try have l63_gm8 := N63.ge gm8
       try have l63_gm10 := N63.ge gm10
       try have l63_gm59 := N63.ge gm59
       try have l63_gm61 := N63.ge gm61
       have g := g.trans (N63.g)
       try have gm8 := gm8.trans (N63.g)
       try have gm10 := gm10.trans (N63.g)
       try have gm59 := gm59.trans (N63.g)
       try have gm61 := gm61.trans (N63.g)
       replace B1 := B1.grow (N63.g)
       replace B7 := B7.grow (N63.g)
       replace B9 := B9.grow (N63.g)
       replace B60 := B60.grow (N63.g)
       replace B58 := B58.grow (N63.g)
       have B63 := N63.blk
       refine sr_nilT ((N63.g).only _) ?_
       refine st_eff1 7 rfl rfl ?_
       refine ste_of_sr (L' := [8]) [0, 1, 1, 1, 1, 3, 1, 1, 3] rfl rfl rfl ?_
       refine sr_pure rfl (rc_call go_syntax_kids ev_f (args_cons (ev_t rfl) (args_cons (ev_t rfl) (args_nil))) rfl) (kids_ok t _ _ D [memK [5], fun k => typK k || memK [9] k, memK [10]] _ _ _ _ _ (hk.grow g) rfl B63.row (fun i h => by match i, h with | 0, _ => exact hA59.grow gm59 | 1, _ => exact hA61.grow gm61 | 2, _ => exact hA8.grow gm8) hc) (fun w64 g64 => ?_)
       have g := g.trans (g64)
       try have gm8 := gm8.trans (g64)
       try have gm10 := gm10.trans (g64)
       try have gm59 := gm59.trans (g64)
       try have gm61 := gm61.trans (g64)
       replace B1 := B1.grow (g64)
       replace B7 := B7.grow (g64)
       replace B9 := B9.grow (g64)
       replace B60 := B60.grow (g64)
       replace B58 := B58.grow (g64)
       replace B63 := B63.grow (g64)
       refine sr_nilT ((g64).only _) ?_
       refine st_pu (L' := []) 8 rfl rfl rfl (fun _ => rd_assign (ev_t rfl)) ?_
       refine st_sub [(2, _, _)] (sub_cons rfl (sub_nil _)) ?_
       refine st_nil (hK21 _ _ ?_)
       refine sc_ret (t_ret1 rfl rfl ?_)
       refine ⟨congrArg Value.bool ?_, g⟩
       unfold formB; simp only [anyK, h1, h5, h6, h7, cond_true, cond_false] <;> rfl
   (try simp only [bsimp] at h7)
   refine sc_seq fun K22 hK22 => ?_
   refine sc_text [3, 3] ?_
   refine sr_pu rfl (fun _ => rd_eq (ev_t rfl) ev_c) ?_
   refine sr_pu rfl (fun _ => rd_assign (ev_t rfl)) ?_
   refine sr_sub [(1, _, _), (2, _, _), (3, _, _), (12, _, _), (65, _, _)] (sub_cons rfl (sub_cons rfl (sub_cons rfl (sub_cons rfl (sub_cons rfl (sub_nil _)))))) ?_
   refine sr_nil (hK22 _ _ ?_)
   refine sc_cond (ev_t rfl) (fun h8 => ?_) (fun h8 => ?_)
   · (try simp only [bsimp] at h8)
     refine sc_seq fun K23 hK23 => ?_
     refine sc_draw [0, 1, 1, 1, 1, 3] [true, true, true, true, true, true] [0, 0, 2, 6, 15, 31] mix (by kernel_rfl) ?_
     have g := g.trans (G.drew _)
     try have gm8 := gm8.trans (G.drew _)
     try have gm10 := gm10.trans (G.drew _)
     replace B1 := B1.grow (G.drew _)
     replace B7 := B7.grow (G.drew _)
     replace B9 := B9.grow (G.drew _)
     refine sr_rd rfl (rd_loads agg_api_Node (ev_t rfl) rfl (fun _ => B1.row)) ?_
     refine sr_buildSlice [_] rfl el_sl_int ze_int (parts_cons ev_c (parts_nil)) rfl rfl ?_
     intro b68 w68 N68
     have x68_1 := N68.ne B1
     have x68_7 := N68.ne B7
     have x68_9 := N68.ne B9
     have l68 := N68.ge g
     try have l68_gm8 := N68.ge gm8
     try have l68_gm10 := N68.ge gm10
     have g := g.trans (N68.g)
     try have gm8 := gm8.trans (N68.g)
     try have gm10 := gm10.trans (N68.g)
     replace B1 := B1.grow (N68.g)
     replace B7 := B7.grow (N68.g)
     replace B9 := B9.grow (N68.g)
     have B68 := N68.blk
     refine sr_call rfl (rc_call go_syntax_either ev_f (args_cons ev_f (args_cons (ev_t rfl) (args_nil))) rfl) (either_ok expK [9] _ _ _ _ _ (fnV_of go_syntax_expression expression_ok _) B68.row (by decide)) ?_
     rintro v69 w69 ⟨hA69, g69⟩
     have hq69 := hA69
     obtain ⟨f69, fs69, cs69, rfl, hgo69, hf69⟩ := hq69
     refine ⟨fun _ => g69, ?_⟩
     have g := g.trans g69
     try have gm8 := gm8.trans (g69)
     try have gm10 := gm10.trans (g69)
     replace B1 := B1.grow (g69)
     replace B7 := B7.grow (g69)
     replace B9 := B9.grow (g69)
     replace B68 := B68.grow (g69)
     have gm69 := G.refl w69
     refine sr_buildSlice [_, _] rfl el_sl_func_int_bool ze_func_int_bool (parts_cons ev_f (parts_cons (ev_t rfl) (parts_nil))) rfl rfl ?_
     intro b70 w70 N70
     have x70_1 := N70.ne B1
     have x70_7 := N70.ne B7
     have x70_9 := N70.ne B9
     have x70_68 := N70.ne B68
     have l70 := N70.ge g
     try have l70_gm8 := N70.ge gm8
     try have l70_gm10 := N70.ge gm10
     try have l70_gm69 := N70.ge gm69
     have g := g.trans (N70.g)
     try have gm8 := gm8.trans (N70.g)
     try have gm10 := gm10.trans (N70.g)
     try have gm69 := gm69.trans (N70.g)
     replace B1 := B1.grow (N70.g)
     replace B7 := B7.grow (N70.g)
     replace B9 := B9.grow (N70.g)
     replace B68 := B68.grow (N70.g)
     have B70 := N70.blk
     refine sr_pure rfl (rc_call go_syntax_kids ev_f (args_cons (ev_t rfl) (args_cons (ev_t rfl) (args_nil))) rfl) (kids_ok t _ _ D [typK, fun k => expK k || memK [9] k] _ _ _ _ _ (hk.grow g) rfl B70.row (fun i h => by match i, h with | 0, _ => exact fnV_of go_syntax_typed typed_ok _ | 1, _ => exact hA69.grow gm69) hc) (fun w71 g71 => ?_)
     have g := g.trans (g71)
     try have gm8 := gm8.trans (g71)
     try have gm10 := gm10.trans (g71)
     try have gm69 := gm69.trans (g71)
     replace B1 := B1.grow (g71)
     replace B7 := B7.grow (g71)
     replace B9 := B9.grow (g71)
     replace B68 := B68.grow (g71)
     replace B70 := B70.grow (g71)
     refine sr_pu rfl (fun _ => rd_assign (ev_t rfl)) ?_
     refine sr_sub [(2, _, _)] (sub_cons rfl (sub_nil _)) ?_
     refine sr_nil (hK23 _ _ ?_)
     refine sc_ret (t_ret1 rfl rfl ?_)
     refine ⟨congrArg Value.bool ?_, g⟩
     unfold formB; simp only [anyK, h1, h5, h6, h7, h8, cond_true, cond_false] <;> rfl
   (try simp only [bsimp] at h8)
   refine sc_seq fun K24 hK24 => ?_
   refine sc_text [3, 3] ?_
   refine sr_pu rfl (fun _ => rd_eq (ev_t rfl) ev_c) ?_
   refine sr_pu rfl (fun _ => rd_assign (ev_t rfl)) ?_
   refine sr_sub [(1, _, _), (2, _, _), (3, _, _), (12, _, _), (72, _, _)] (sub_cons rfl (sub_cons rfl (sub_cons rfl (sub_cons rfl (sub_cons rfl (sub_nil _)))))) ?_
   refine sr_nil (hK24 _ _ ?_)
   refine sc_cond (ev_t rfl) (fun h9 => ?_) (fun h9 => ?_)
   · (try simp only [bsimp] at h9)
     refine sc_seq fun K25 hK25 => ?_
     refine sc_text [0, 1, 3] ?_
     refine sr_rd rfl (rd_loads agg_api_Node (ev_t rfl) rfl (fun _ => B1.row)) ?_
     refine sr_pure rfl (rc_call go_syntax_every ev_f (args_cons (ev_t rfl) (args_cons ev_c (args_cons ev_f (args_nil)))) rfl) (every_ok t _ _ D stK _ _ (hk.grow g) (fnV_of go_syntax_statement statement_ok _) hc) (fun w75 g75 => ?_)
     have g := g.trans (g75)
     try have gm8 := gm8.trans (g75)
     try have gm10 := gm10.trans (g75)
     replace B1 := B1.grow (g75)
     replace B7 := B7.grow (g75)
     replace B9 := B9.grow (g75)
     refine sr_pu rfl (fun _ => rd_assign (ev_t rfl)) ?_
     refine sr_sub [(2, _, _)] (sub_cons rfl (sub_nil _)) ?_
     refine sr_nil (hK25 _ _ ?_)
     refine sc_ret (t_ret1 rfl rfl ?_)
     refine ⟨congrArg Value.bool ?_, g⟩
     unfold formB; simp only [anyK, h1, h5, h6, h7, h8, h9, cond_true, cond_false] <;> rfl
   (try simp only [bsimp] at h9)
   refine sc_seq fun K26 hK26 => ?_
   refine sc_seq fun K27 hK27 => ?_
   refine sc_text [3, 3] ?_
   refine sr_pu rfl (fun _ => rd_eq (ev_t rfl) ev_c) ?_
   refine sr_pu rfl (fun _ => rd_assign (ev_t rfl)) ?_
   refine sr_sub [(1, _, _), (2, _, _), (3, _, _), (12, _, _), (76, _, _)] (sub_cons rfl (sub_cons rfl (sub_cons rfl (sub_cons rfl (sub_cons rfl (sub_nil _)))))) ?_
   refine sr_nil (hK27 _ _ ?_)
   refine' sc_or [(1, _, _), (2, _, _), (3, _, _), (12, _, _)] (sub_cons rfl (sub_cons rfl (sub_cons rfl (sub_cons rfl (sub_cons rfl (sub_nil _)))))) rfl (fun hb10 => ?y10) (hK26 _ _ ?n10)
   case y10 =>
    refine sc_seq fun K28 hK28 => ?_
    refine sc_text [3, 3] ?_
    refine sr_pu rfl (fun _ => rd_eq (ev_t rfl) ev_c) ?_
    refine sr_pu rfl (fun _ => rd_assign (ev_t rfl)) ?_
    refine sr_sub [(1, _, _), (2, _, _), (3, _, _), (12, _, _), (76, _, _)] (sub_cons rfl (sub_cons rfl (sub_cons rfl (sub_cons rfl (sub_cons rfl (sub_nil _)))))) ?_
    refine sr_nil (hK28 _ _ ?_)
    refine' sc_or [(1, _, _), (2, _, _), (3, _, _), (12, _, _)] (sub_cons rfl (sub_cons rfl (sub_cons rfl (sub_cons rfl (sub_cons rfl (sub_nil _)))))) rfl (fun hb11 => ?y11) (fun a ha => ⟨ha, rfl⟩)
    case y11 =>
     refine sc_seq fun K29 hK29 => ?_
     refine sc_text [3, 3] ?_
     refine sr_pu rfl (fun _ => rd_eq (ev_t rfl) ev_c) ?_
     refine sr_pu rfl (fun _ => rd_assign (ev_t rfl)) ?_
     refine sr_sub [(1, _, _), (2, _, _), (3, _, _), (12, _, _), (76, _, _)] (sub_cons rfl (sub_cons rfl (sub_cons rfl (sub_cons rfl (sub_cons rfl (sub_nil _)))))) ?_
     refine sr_nil (hK29 _ _ ?_)
     refine' sc_or [(1, _, _), (2, _, _), (3, _, _), (12, _, _)] (sub_cons rfl (sub_cons rfl (sub_cons rfl (sub_cons rfl (sub_cons rfl (sub_nil _)))))) rfl (fun hb12 => ?y12) (fun a ha => ⟨ha, rfl⟩)
     case y12 =>
      refine sc_seq fun K30 hK30 => ?_
      refine sc_text [3, 3] ?_
      refine sr_pu rfl (fun _ => rd_eq (ev_t rfl) ev_c) ?_
      refine sr_pu rfl (fun _ => rd_assign (ev_t rfl)) ?_
      refine sr_sub [(1, _, _), (2, _, _), (3, _, _), (12, _, _), (76, _, _)] (sub_cons rfl (sub_cons rfl (sub_cons rfl (sub_cons rfl (sub_cons rfl (sub_nil _)))))) ?_
      refine sr_nil (hK30 _ _ ?_)
      refine' sc_or [(1, _, _), (2, _, _), (3, _, _), (12, _, _)] (sub_cons rfl (sub_cons rfl (sub_cons rfl (sub_cons rfl (sub_cons rfl (sub_nil _)))))) rfl (fun hb13 => ?y13) (fun a ha => ⟨ha, rfl⟩)
      case y13 =>
       refine sc_seq fun K31 hK31 => ?_
       refine sc_text [3, 3] ?_
       refine sr_pu rfl (fun _ => rd_eq (ev_t rfl) ev_c) ?_
       refine sr_pu rfl (fun _ => rd_assign (ev_t rfl)) ?_
       refine sr_sub [(1, _, _), (2, _, _), (3, _, _), (12, _, _), (76, _, _)] (sub_cons rfl (sub_cons rfl (sub_cons rfl (sub_cons rfl (sub_cons rfl (sub_nil _)))))) ?_
       refine sr_nil (hK31 _ _ ?_)
       refine' sc_or [(1, _, _), (2, _, _), (3, _, _), (12, _, _)] (sub_cons rfl (sub_cons rfl (sub_cons rfl (sub_cons rfl (sub_cons rfl (sub_nil _)))))) rfl (fun hb14 => ?y14) (fun a ha => ⟨ha, rfl⟩)
       case y14 =>
        refine sc_seq fun K32 hK32 => ?_
        refine sc_text [3, 3] ?_
        refine sr_pu rfl (fun _ => rd_eq (ev_t rfl) ev_c) ?_
        refine sr_pu rfl (fun _ => rd_assign (ev_t rfl)) ?_
        refine sr_sub [(1, _, _), (2, _, _), (3, _, _), (12, _, _), (76, _, _)] (sub_cons rfl (sub_cons rfl (sub_cons rfl (sub_cons rfl (sub_cons rfl (sub_nil _)))))) ?_
        refine sr_nil (hK32 _ _ ?_)
        refine' sc_or [(1, _, _), (2, _, _), (3, _, _), (12, _, _)] (sub_cons rfl (sub_cons rfl (sub_cons rfl (sub_cons rfl (sub_cons rfl (sub_nil _)))))) rfl (fun hb15 => ?y15) (fun a ha => ⟨ha, rfl⟩)
        case y15 =>
         refine sc_seq fun K33 hK33 => ?_
         refine sc_text [3, 3] ?_
         refine sr_pu rfl (fun _ => rd_eq (ev_t rfl) ev_c) ?_
         refine sr_pu rfl (fun _ => rd_assign (ev_t rfl)) ?_
         refine sr_sub [(1, _, _), (2, _, _), (3, _, _), (12, _, _), (76, _, _)] (sub_cons rfl (sub_cons rfl (sub_cons rfl (sub_cons rfl (sub_cons rfl (sub_nil _)))))) ?_
         refine sr_nil (hK33 _ _ ?_)
         refine' sc_or [(1, _, _), (2, _, _), (3, _, _), (12, _, _)] (sub_cons rfl (sub_cons rfl (sub_cons rfl (sub_cons rfl (sub_cons rfl (sub_nil _)))))) rfl (fun hb16 => ?y16) (fun a ha => ⟨ha, rfl⟩)
         case y16 =>
          refine sc_seq fun K34 hK34 => ?_
          refine sc_text [3, 3] ?_
          refine sr_pu rfl (fun _ => rd_eq (ev_t rfl) ev_c) ?_
          refine sr_pu rfl (fun _ => rd_assign (ev_t rfl)) ?_
          refine sr_sub [(1, _, _), (2, _, _), (3, _, _), (12, _, _), (76, _, _)] (sub_cons rfl (sub_cons rfl (sub_cons rfl (sub_cons rfl (sub_cons rfl (sub_nil _)))))) ?_
          refine sr_nil (hK34 _ _ ?_)
          refine' sc_or [(1, _, _), (2, _, _), (3, _, _), (12, _, _)] (sub_cons rfl (sub_cons rfl (sub_cons rfl (sub_cons rfl (sub_cons rfl (sub_nil _)))))) rfl (fun hb17 => ?y17) (fun a ha => ⟨ha, rfl⟩)
          case y17 =>
           refine sc_text [3, 3] ?_
           refine sr_pu rfl (fun _ => rd_eq (ev_t rfl) ev_c) ?_
           refine sr_pu rfl (fun _ => rd_assign (ev_t rfl)) ?_
           refine sr_sub [(76, _, _), (1, _, _), (2, _, _), (3, _, _), (12, _, _)] (sub_cons rfl (sub_cons rfl (sub_cons rfl (sub_cons rfl (sub_cons rfl (sub_nil _)))))) ?_
           exact sr_nil (fun a ha => ⟨ha, rfl⟩)
   case n10 =>
    refine sc_cond (ev_t rfl) (fun h18 => ?_) (fun h18 => ?_)
    · (try simp only [bsimp] at h18)
      refine sc_seq fun K35 hK35 => ?_
      refine sc_text [0, 1, 1, 3] ?_
      refine sr_rd rfl (rd_loads agg_api_Node (ev_t rfl) rfl (fun _ => B1.row)) ?_
      refine sr_buildSlice [_] rfl el_sl_func_int_bool ze_func_int_bool (parts_cons ev_f (parts_nil)) rfl rfl ?_
      intro b87 w87 N87
      have x87_1 := N87.ne B1
      have x87_7 := N87.ne B7
      have x87_9 := N87.ne B9
      have l87 := N87.ge g
      try have l87_gm8 := N87.ge gm8
      try have l87_gm10 := N87.ge gm10
      have g := g.trans (N87.g)
      try have gm8 := gm8.trans (N87.g)
      try have gm10 := gm10.trans (N87.g)
      replace B1 := B1.grow (N87.g)
      replace B7 := B7.grow (N87.g)
      replace B9 := B9.grow (N87.g)
      have B87 := N87.blk
      refine sr_pure rfl (rc_call go_syntax_kids ev_f (args_cons (ev_t rfl) (args_cons (ev_t rfl) (args_nil))) rfl) (kids_ok t _ _ D [expK] _ _ _ _ _ (hk.grow g) rfl B87.row (fun i h => by match i, h with | 0, _ => exact fnV_of go_syntax_expression expression_ok _) hc) (fun w88 g88 => ?_)
      have g := g.trans (g88)
      try have gm8 := gm8.trans (g88)
      try have gm10 := gm10.trans (g88)
      replace B1 := B1.grow (g88)
      replace B7 := B7.grow (g88)
      replace B9 := B9.grow (g88)
      replace B87 := B87.grow (g88)
      refine sr_pu rfl (fun _ => rd_assign (ev_t rfl)) ?_
      refine sr_sub [(2, _, _)] (sub_cons rfl (sub_nil _)) ?_
      refine sr_nil (hK35 _ _ ?_)
      refine sc_ret (t_ret1 rfl rfl ?_)
      refine ⟨congrArg Value.bool ?_, g⟩
      unfold formB; simp only [anyK, h1, h5, h6, h7, h8, h9, h18, cond_true, cond_false] <;> rfl
    (try simp only [bsimp] at h18)
    refine sc_seq fun K36 hK36 => ?_
    refine sc_seq fun K37 hK37 => ?_
    refine sc_text [3, 3] ?_
    refine sr_pu rfl (fun _ => rd_eq (ev_t rfl) ev_c) ?_
    refine sr_pu rfl (fun _ => rd_assign (ev_t rfl)) ?_
    refine sr_sub [(1, _, _), (2, _, _), (3, _, _), (12, _, _), (89, _, _)] (sub_cons rfl (sub_cons rfl (sub_cons rfl (sub_cons rfl (sub_cons rfl (sub_nil _)))))) ?_
    refine sr_nil (hK37 _ _ ?_)
    refine' sc_or [(1, _, _), (2, _, _), (3, _, _), (12, _, _)] (sub_cons rfl (sub_cons rfl (sub_cons rfl (sub_cons rfl (sub_cons rfl (sub_nil _)))))) rfl (fun hb19 => ?y19) (hK36 _ _ ?n19)
    case y19 =>
     refine sc_seq fun K38 hK38 => ?_
     refine sc_text [3, 3] ?_
     refine sr_pu rfl (fun _ => rd_eq (ev_t rfl) ev_c) ?_
     refine sr_pu rfl (fun _ => rd_assign (ev_t rfl)) ?_
     refine sr_sub [(1, _, _), (2, _, _), (3, _, _), (12, _, _), (89, _, _)] (sub_cons rfl (sub_cons rfl (sub_cons rfl (sub_cons rfl (sub_cons rfl (sub_nil _)))))) ?_
     refine sr_nil (hK38 _ _ ?_)
     refine' sc_or [(1, _, _), (2, _, _), (3, _, _), (12, _, _)] (sub_cons rfl (sub_cons rfl (sub_cons rfl (sub_cons rfl (sub_cons rfl (sub_nil _)))))) rfl (fun hb20 => ?y20) (fun a ha => ⟨ha, rfl⟩)
     case y20 =>
      refine sc_seq fun K39 hK39 => ?_
      refine sc_text [3, 3] ?_
      refine sr_pu rfl (fun _ => rd_eq (ev_t rfl) ev_c) ?_
      refine sr_pu rfl (fun _ => rd_assign (ev_t rfl)) ?_
      refine sr_sub [(1, _, _), (2, _, _), (3, _, _), (12, _, _), (89, _, _)] (sub_cons rfl (sub_cons rfl (sub_cons rfl (sub_cons rfl (sub_cons rfl (sub_nil _)))))) ?_
      refine sr_nil (hK39 _ _ ?_)
      refine' sc_or [(1, _, _), (2, _, _), (3, _, _), (12, _, _)] (sub_cons rfl (sub_cons rfl (sub_cons rfl (sub_cons rfl (sub_cons rfl (sub_nil _)))))) rfl (fun hb21 => ?y21) (fun a ha => ⟨ha, rfl⟩)
      case y21 =>
       refine sc_text [3, 3] ?_
       refine sr_pu rfl (fun _ => rd_eq (ev_t rfl) ev_c) ?_
       refine sr_pu rfl (fun _ => rd_assign (ev_t rfl)) ?_
       refine sr_sub [(89, _, _), (1, _, _), (2, _, _), (3, _, _), (12, _, _)] (sub_cons rfl (sub_cons rfl (sub_cons rfl (sub_cons rfl (sub_cons rfl (sub_nil _)))))) ?_
       exact sr_nil (fun a ha => ⟨ha, rfl⟩)
    case n19 =>
     refine sc_cond (ev_t rfl) (fun h22 => ?_) (fun h22 => ?_)
     · (try simp only [bsimp] at h22)
       refine sc_seq fun K40 hK40 => ?_
       refine sc_text [0, 1, 1, 3] ?_
       refine sr_rd rfl (rd_loads agg_api_Node (ev_t rfl) rfl (fun _ => B1.row)) ?_
       refine sr_buildSlice [_, _] rfl el_sl_func_int_bool ze_func_int_bool (parts_cons ev_f (parts_cons ev_f (parts_nil))) rfl rfl ?_
       intro b95 w95 N95
       have x95_1 := N95.ne B1
       have x95_7 := N95.ne B7
       have x95_9 := N95.ne B9
       have l95 := N95.ge g
       try have l95_gm8 := N95.ge gm8
       try have l95_gm10 := N95.ge gm10
       have g := g.trans (N95.g)
       try have gm8 := gm8.trans (N95.g)
       try have gm10 := gm10.trans (N95.g)
       replace B1 := B1.grow (N95.g)
       replace B7 := B7.grow (N95.g)
       replace B9 := B9.grow (N95.g)
       have B95 := N95.blk
       refine sr_pure rfl (rc_call go_syntax_kids ev_f (args_cons (ev_t rfl) (args_cons (ev_t rfl) (args_nil))) rfl) (kids_ok t _ _ D [expK, expK] _ _ _ _ _ (hk.grow g) rfl B95.row (fun i h => by match i, h with | 0, _ => exact fnV_of go_syntax_expression expression_ok _ | 1, _ => exact fnV_of go_syntax_expression expression_ok _) hc) (fun w96 g96 => ?_)
       have g := g.trans (g96)
       try have gm8 := gm8.trans (g96)
       try have gm10 := gm10.trans (g96)
       replace B1 := B1.grow (g96)
       replace B7 := B7.grow (g96)
       replace B9 := B9.grow (g96)
       replace B95 := B95.grow (g96)
       refine sr_pu rfl (fun _ => rd_assign (ev_t rfl)) ?_
       refine sr_sub [(2, _, _)] (sub_cons rfl (sub_nil _)) ?_
       refine sr_nil (hK40 _ _ ?_)
       refine sc_ret (t_ret1 rfl rfl ?_)
       refine ⟨congrArg Value.bool ?_, g⟩
       unfold formB; simp only [anyK, h1, h5, h6, h7, h8, h9, h18, h22, cond_true, cond_false] <;> rfl
     (try simp only [bsimp] at h22)
     refine sc_seq fun K41 hK41 => ?_
     refine sc_text [3, 3] ?_
     refine sr_pu rfl (fun _ => rd_eq (ev_t rfl) ev_c) ?_
     refine sr_pu rfl (fun _ => rd_assign (ev_t rfl)) ?_
     refine sr_sub [(1, _, _), (2, _, _), (3, _, _), (12, _, _), (97, _, _)] (sub_cons rfl (sub_cons rfl (sub_cons rfl (sub_cons rfl (sub_cons rfl (sub_nil _)))))) ?_
     refine sr_nil (hK41 _ _ ?_)
     refine sc_cond (ev_t rfl) (fun h23 => ?_) (fun h23 => ?_)
     · (try simp only [bsimp] at h23)
       refine sc_seq fun K42 hK42 => ?_
       refine sc_draw [0, 1, 1, 1, 1, 3] [true, true, true, true, true, true] [0, 0, 2, 6, 15, 31] mix (by kernel_rfl) ?_
       have g := g.trans (G.drew _)
       try have gm8 := gm8.trans (G.drew _)
       try have gm10 := gm10.trans (G.drew _)
       replace B1 := B1.grow (G.drew _)
       replace B7 := B7.grow (G.drew _)
       replace B9 := B9.grow (G.drew _)
       refine sr_rd rfl (rd_loads agg_api_Node (ev_t rfl) rfl (fun _ => B1.row)) ?_
       refine sr_buildSlice [_, _] rfl el_sl_int ze_int (parts_cons ev_c (parts_cons ev_c (parts_nil))) rfl rfl ?_
       intro b100 w100 N100
       have x100_1 := N100.ne B1
       have x100_7 := N100.ne B7
       have x100_9 := N100.ne B9
       have l100 := N100.ge g
       try have l100_gm8 := N100.ge gm8
       try have l100_gm10 := N100.ge gm10
       have g := g.trans (N100.g)
       try have gm8 := gm8.trans (N100.g)
       try have gm10 := gm10.trans (N100.g)
       replace B1 := B1.grow (N100.g)
       replace B7 := B7.grow (N100.g)
       replace B9 := B9.grow (N100.g)
       have B100 := N100.blk
       refine sr_call rfl (rc_call go_syntax_among ev_f (args_cons (ev_t rfl) (args_nil)) rfl) (among_ok [30, 33] _ _ _ _ B100.row (by decide)) ?_
       rintro v101 w101 ⟨hA101, g101⟩
       have hq101 := hA101
       obtain ⟨f101, fs101, cs101, rfl, hgo101, hf101⟩ := hq101
       refine ⟨fun _ => g101, ?_⟩
       have g := g.trans g101
       try have gm8 := gm8.trans (g101)
       try have gm10 := gm10.trans (g101)
       replace B1 := B1.grow (g101)
       replace B7 := B7.grow (g101)
       replace B9 := B9.grow (g101)
       replace B100 := B100.grow (g101)
       have gm101 := G.refl w101
       refine sr_buildSlice [_] rfl el_sl_func_int_bool ze_func_int_bool (parts_cons (ev_t rfl) (parts_nil)) rfl rfl ?_
       intro b102 w102 N102
       have x102_1 := N102.ne B1
       have x102_7 := N102.ne B7
       have x102_9 := N102.ne B9
       have x102_100 := N102.ne B100
       have l102 := N102.ge g
       try have l102_gm8 := N102.ge gm8
       try have l102_gm10 := N102.ge gm10
       try have l102_gm101 := N102.ge gm101
       have g := g.trans (N102.g)
       try have gm8 := gm8.trans (N102.g)
       try have gm10 := gm10.trans (N102.g)
       try have gm101 := gm101.trans (N102.g)
       replace B1 := B1.grow (N102.g)
       replace B7 := B7.grow (N102.g)
       replace B9 := B9.grow (N102.g)
       replace B100 := B100.grow (N102.g)
       have B102 := N102.blk
       refine sr_pure rfl (rc_call go_syntax_kids ev_f (args_cons (ev_t rfl) (args_cons (ev_t rfl) (args_nil))) rfl) (kids_ok t _ _ D [memK [30, 33]] _ _ _ _ _ (hk.grow g) rfl B102.row (fun i h => by match i, h with | 0, _ => exact hA101.grow gm101) hc) (fun w103 g103 => ?_)
       have g := g.trans (g103)
       try have gm8 := gm8.trans (g103)
       try have gm10 := gm10.trans (g103)
       try have gm101 := gm101.trans (g103)
       replace B1 := B1.grow (g103)
       replace B7 := B7.grow (g103)
       replace B9 := B9.grow (g103)
       replace B100 := B100.grow (g103)
       replace B102 := B102.grow (g103)
       refine sr_pu rfl (fun _ => rd_assign (ev_t rfl)) ?_
       refine sr_sub [(2, _, _)] (sub_cons rfl (sub_nil _)) ?_
       refine sr_nil (hK42 _ _ ?_)
       refine sc_ret (t_ret1 rfl rfl ?_)
       refine ⟨congrArg Value.bool ?_, g⟩
       unfold formB; simp only [anyK, h1, h5, h6, h7, h8, h9, h18, h22, h23, cond_true, cond_false] <;> rfl
     (try simp only [bsimp] at h23)
     refine sc_seq fun K43 hK43 => ?_
     refine sc_seq fun K44 hK44 => ?_
     refine sc_text [3, 3] ?_
     refine sr_pu rfl (fun _ => rd_eq (ev_t rfl) ev_c) ?_
     refine sr_pu rfl (fun _ => rd_assign (ev_t rfl)) ?_
     refine sr_sub [(1, _, _), (2, _, _), (3, _, _), (12, _, _), (104, _, _)] (sub_cons rfl (sub_cons rfl (sub_cons rfl (sub_cons rfl (sub_cons rfl (sub_nil _)))))) ?_
     refine sr_nil (hK44 _ _ ?_)
     refine' sc_or [(1, _, _), (2, _, _), (3, _, _), (12, _, _)] (sub_cons rfl (sub_cons rfl (sub_cons rfl (sub_cons rfl (sub_cons rfl (sub_nil _)))))) rfl (fun hb24 => ?y24) (hK43 _ _ ?n24)
     case y24 =>
      refine sc_text [3, 3] ?_
      refine sr_pu rfl (fun _ => rd_eq (ev_t rfl) ev_c) ?_
      refine sr_pu rfl (fun _ => rd_assign (ev_t rfl)) ?_
      refine sr_sub [(104, _, _), (1, _, _), (2, _, _), (3, _, _), (12, _, _)] (sub_cons rfl (sub_cons rfl (sub_cons rfl (sub_cons rfl (sub_cons rfl (sub_nil _)))))) ?_
      exact sr_nil (fun a ha => ⟨ha, rfl⟩)
     case n24 =>
      refine sc_cond (ev_t rfl) (fun h25 => ?_) (fun h25 => ?_)
      · (try simp only [bsimp] at h25)
        refine sc_seq fun K45 hK45 => ?_
        refine sc_draw [0, 1, 1, 1, 1, 3] [true, true, true, true, true, true] [0, 0, 2, 6, 15, 31] mix (by kernel_rfl) ?_
        have g := g.trans (G.drew _)
        try have gm8 := gm8.trans (G.drew _)
        try have gm10 := gm10.trans (G.drew _)
        replace B1 := B1.grow (G.drew _)
        replace B7 := B7.grow (G.drew _)
        replace B9 := B9.grow (G.drew _)
        refine sr_rd rfl (rd_loads agg_api_Node (ev_t rfl) rfl (fun _ => B1.row)) ?_
        refine sr_buildSlice [_] rfl el_sl_int ze_int (parts_cons ev_c (parts_nil)) rfl rfl ?_
        intro b108 w108 N108
        have x108_1 := N108.ne B1
        have x108_7 := N108.ne B7
        have x108_9 := N108.ne B9
        have l108 := N108.ge g
        try have l108_gm8 := N108.ge gm8
        try have l108_gm10 := N108.ge gm10
        have g := g.trans (N108.g)
        try have gm8 := gm8.trans (N108.g)
        try have gm10 := gm10.trans (N108.g)
        replace B1 := B1.grow (N108.g)
        replace B7 := B7.grow (N108.g)
        replace B9 := B9.grow (N108.g)
        have B108 := N108.blk
        refine sr_call rfl (rc_call go_syntax_among ev_f (args_cons (ev_t rfl) (args_nil)) rfl) (among_ok [30] _ _ _ _ B108.row (by decide)) ?_
        rintro v109 w109 ⟨hA109, g109⟩
        have hq109 := hA109
        obtain ⟨f109, fs109, cs109, rfl, hgo109, hf109⟩ := hq109
        refine ⟨fun _ => g109, ?_⟩
        have g := g.trans g109
        try have gm8 := gm8.trans (g109)
        try have gm10 := gm10.trans (g109)
        replace B1 := B1.grow (g109)
        replace B7 := B7.grow (g109)
        replace B9 := B9.grow (g109)
        replace B108 := B108.grow (g109)
        have gm109 := G.refl w109
        refine sr_buildSlice [_] rfl el_sl_func_int_bool ze_func_int_bool (parts_cons (ev_t rfl) (parts_nil)) rfl rfl ?_
        intro b110 w110 N110
        have x110_1 := N110.ne B1
        have x110_7 := N110.ne B7
        have x110_9 := N110.ne B9
        have x110_108 := N110.ne B108
        have l110 := N110.ge g
        try have l110_gm8 := N110.ge gm8
        try have l110_gm10 := N110.ge gm10
        try have l110_gm109 := N110.ge gm109
        have g := g.trans (N110.g)
        try have gm8 := gm8.trans (N110.g)
        try have gm10 := gm10.trans (N110.g)
        try have gm109 := gm109.trans (N110.g)
        replace B1 := B1.grow (N110.g)
        replace B7 := B7.grow (N110.g)
        replace B9 := B9.grow (N110.g)
        replace B108 := B108.grow (N110.g)
        have B110 := N110.blk
        refine sr_pure rfl (rc_call go_syntax_kids ev_f (args_cons (ev_t rfl) (args_cons (ev_t rfl) (args_nil))) rfl) (kids_ok t _ _ D [memK [30]] _ _ _ _ _ (hk.grow g) rfl B110.row (fun i h => by match i, h with | 0, _ => exact hA109.grow gm109) hc) (fun w111 g111 => ?_)
        have g := g.trans (g111)
        try have gm8 := gm8.trans (g111)
        try have gm10 := gm10.trans (g111)
        try have gm109 := gm109.trans (g111)
        replace B1 := B1.grow (g111)
        replace B7 := B7.grow (g111)
        replace B9 := B9.grow (g111)
        replace B108 := B108.grow (g111)
        replace B110 := B110.grow (g111)
        refine sr_pu rfl (fun _ => rd_assign (ev_t rfl)) ?_
        refine sr_sub [(2, _, _)] (sub_cons rfl (sub_nil _)) ?_
        refine sr_nil (hK45 _ _ ?_)
        refine sc_ret (t_ret1 rfl rfl ?_)
        refine ⟨congrArg Value.bool ?_, g⟩
        unfold formB; simp only [anyK, h1, h5, h6, h7, h8, h9, h18, h22, h23, h25, cond_true, cond_false] <;> rfl
      (try simp only [bsimp] at h25)
      refine sc_seq fun K46 hK46 => ?_
      refine sc_text [3, 3] ?_
      refine sr_pu rfl (fun _ => rd_eq (ev_t rfl) ev_c) ?_
      refine sr_pu rfl (fun _ => rd_assign (ev_t rfl)) ?_
      refine sr_sub [(1, _, _), (2, _, _), (3, _, _), (12, _, _), (112, _, _)] (sub_cons rfl (sub_cons rfl (sub_cons rfl (sub_cons rfl (sub_cons rfl (sub_nil _)))))) ?_
      refine sr_nil (hK46 _ _ ?_)
      refine sc_cond (ev_t rfl) (fun h26 => ?_) (fun h26 => ?_)
      · (try simp only [bsimp] at h26)
        refine sc_seq fun K47 hK47 => ?_
        refine sc_draw [0, 3, 1, 1, 1, 1, 3] [true, true, true, true, true, true, true] [0, 0, 0, 4, 14, 31, 63] mix (by kernel_rfl) ?_
        have g := g.trans (G.drew _)
        try have gm8 := gm8.trans (G.drew _)
        try have gm10 := gm10.trans (G.drew _)
        replace B1 := B1.grow (G.drew _)
        replace B7 := B7.grow (G.drew _)
        replace B9 := B9.grow (G.drew _)
        refine sr_rd rfl (rd_loads agg_api_Node (ev_t rfl) rfl (fun _ => B1.row)) ?_
        refine sr_pu rfl (fun _ => rd_move (ev_t rfl)) ?_
        refine sr_buildSlice [_, _, _] rfl el_sl_int ze_int (parts_cons ev_c (parts_cons ev_c (parts_cons ev_c (parts_nil)))) rfl rfl ?_
        intro b116 w116 N116
        have x116_1 := N116.ne B1
        have x116_7 := N116.ne B7
        have x116_9 := N116.ne B9
        have l116 := N116.ge g
        try have l116_gm8 := N116.ge gm8
        try have l116_gm10 := N116.ge gm10
        have g := g.trans (N116.g)
        try have gm8 := gm8.trans (N116.g)
        try have gm10 := gm10.trans (N116.g)
        replace B1 := B1.grow (N116.g)
        replace B7 := B7.grow (N116.g)
        replace B9 := B9.grow (N116.g)
        have B116 := N116.blk
        refine sr_call rfl (rc_call go_syntax_among ev_f (args_cons (ev_t rfl) (args_nil)) rfl) (among_ok [10, 18, 9] _ _ _ _ B116.row (by decide)) ?_
        rintro v117 w117 ⟨hA117, g117⟩
        have hq117 := hA117
        obtain ⟨f117, fs117, cs117, rfl, hgo117, hf117⟩ := hq117
        refine ⟨fun _ => g117, ?_⟩
        have g := g.trans g117
        try have gm8 := gm8.trans (g117)
        try have gm10 := gm10.trans (g117)
        replace B1 := B1.grow (g117)
        replace B7 := B7.grow (g117)
        replace B9 := B9.grow (g117)
        replace B116 := B116.grow (g117)
        have gm117 := G.refl w117
        refine sr_buildSlice [_, _, _] rfl el_sl_func_int_bool ze_func_int_bool (parts_cons ev_f (parts_cons (ev_t rfl) (parts_cons (ev_t rfl) (parts_nil)))) rfl rfl ?_
        intro b118 w118 N118
        have x118_1 := N118.ne B1
        have x118_7 := N118.ne B7
        have x118_9 := N118.ne B9
        have x118_116 := N118.ne B116
        have l118 := N118.ge g
        try have l118_gm8 := N118.ge gm8
        try have l118_gm10 := N118.ge gm10
        try have l118_gm117 := N118.ge gm117
        have g := g.trans (N118.g)
        try have gm8 := gm8.trans (N118.g)
        try have gm10 := gm10.trans (N118.g)
        try have gm117 := gm117.trans (N118.g)
        replace B1 := B1.grow (N118.g)
        replace B7 := B7.grow (N118.g)
        replace B9 := B9.grow (N118.g)
        replace B116 := B116.grow (N118.g)
        have B118 := N118.blk
        refine sr_pure rfl (rc_call go_syntax_kids ev_f (args_cons (ev_t rfl) (args_cons (ev_t rfl) (args_nil))) rfl) (kids_ok t _ _ D [expK, memK [10], memK [10, 18, 9]] _ _ _ _ _ (hk.grow g) rfl B118.row (fun i h => by match i, h with | 0, _ => exact fnV_of go_syntax_expression expression_ok _ | 1, _ => exact hA8.grow gm8 | 2, _ => exact hA117.grow gm117) hc) (fun w119 g119 => ?_)
        have g := g.trans (g119)
        try have gm8 := gm8.trans (g119)
        try have gm10 := gm10.trans (g119)
        try have gm117 := gm117.trans (g119)
        replace B1 := B1.grow (g119)
        replace B7 := B7.grow (g119)
        replace B9 := B9.grow (g119)
        replace B116 := B116.grow (g119)
        replace B118 := B118.grow (g119)
        refine sr_pu rfl (fun _ => rd_assign (ev_t rfl)) ?_
        refine sr_sub [(2, _, _)] (sub_cons rfl (sub_nil _)) ?_
        refine sr_nil (hK47 _ _ ?_)
        refine sc_ret (t_ret1 rfl rfl ?_)
        refine ⟨congrArg Value.bool ?_, g⟩
        unfold formB; simp only [anyK, h1, h5, h6, h7, h8, h9, h18, h22, h23, h25, h26, cond_true, cond_false] <;> rfl
      (try simp only [bsimp] at h26)
      refine sc_seq fun K48 hK48 => ?_
      refine sc_text [3, 3] ?_
      refine sr_pu rfl (fun _ => rd_eq (ev_t rfl) ev_c) ?_
      refine sr_pu rfl (fun _ => rd_assign (ev_t rfl)) ?_
      refine sr_sub [(1, _, _), (2, _, _), (3, _, _), (12, _, _), (120, _, _)] (sub_cons rfl (sub_cons rfl (sub_cons rfl (sub_cons rfl (sub_cons rfl (sub_nil _)))))) ?_
      refine sr_nil (hK48 _ _ ?_)
      refine sc_cond (ev_t rfl) (fun h27 => ?_) (fun h27 => ?_)
      · (try simp only [bsimp] at h27)
        refine sc_seq fun K49 hK49 => ?_
        refine sc_draw [0, 1, 1, 3, 1, 1, 3] [true, true, true, false, true, true, true] [0, 0, 2, 0, 14, 31, 63] mix (by kernel_rfl) ?_
        have g := g.trans (G.drew _)
        try have gm8 := gm8.trans (G.drew _)
        try have gm10 := gm10.trans (G.drew _)
        replace B1 := B1.grow (G.drew _)
        replace B7 := B7.grow (G.drew _)
        replace B9 := B9.grow (G.drew _)
        refine sr_rd rfl (rd_loads agg_api_Node (ev_t rfl) rfl (fun _ => B1.row)) ?_
        refine sr_buildSlice [_] rfl el_sl_int ze_int (parts_cons ev_c (parts_nil)) rfl rfl ?_
        intro b123 w123 N123
        have x123_1 := N123.ne B1
        have x123_7 := N123.ne B7
        have x123_9 := N123.ne B9
        have l123 := N123.ge g
        try have l123_gm8 := N123.ge gm8
        try have l123_gm10 := N123.ge gm10
        have g := g.trans (N123.g)
        try have gm8 := gm8.trans (N123.g)
        try have gm10 := gm10.trans (N123.g)
        replace B1 := B1.grow (N123.g)
        replace B7 := B7.grow (N123.g)
        replace B9 := B9.grow (N123.g)
        have B123 := N123.blk
        refine sr_call rfl (rc_call go_syntax_either ev_f (args_cons ev_f (args_cons (ev_t rfl) (args_nil))) rfl) (either_ok expK [9] _ _ _ _ _ (fnV_of go_syntax_expression expression_ok _) B123.row (by decide)) ?_
        rintro v124 w124 ⟨hA124, g124⟩
        have hq124 := hA124
        obtain ⟨f124, fs124, cs124, rfl, hgo124, hf124⟩ := hq124
        refine ⟨fun _ => g124, ?_⟩
        have g := g.trans g124
        try have gm8 := gm8.trans (g124)
        try have gm10 := gm10.trans (g124)
        replace B1 := B1.grow (g124)
        replace B7 := B7.grow (g124)
        replace B9 := B9.grow (g124)
        replace B123 := B123.grow (g124)
        have gm124 := G.refl w124
        refine sr_pu rfl (fun _ => rd_move (ev_t rfl)) ?_
        refine sr_buildSlice [_, _] rfl el_sl_func_int_bool ze_func_int_bool (parts_cons (ev_t rfl) (parts_cons (ev_t rfl) (parts_nil))) rfl rfl ?_
        intro b126 w126 N126
        have x126_1 := N126.ne B1
        have x126_7 := N126.ne B7
        have x126_9 := N126.ne B9
        have x126_123 := N126.ne B123
        have l126 := N126.ge g
        try have l126_gm8 := N126.ge gm8
        try have l126_gm10 := N126.ge gm10
        try have l126_gm124 := N126.ge gm124
        have g := g.trans (N126.g)
        try have gm8 := gm8.trans (N126.g)
        try have gm10 := gm10.trans (N126.g)
        try have gm124 := gm124.trans (N126.g)
        replace B1 := B1.grow (N126.g)
        replace B7 := B7.grow (N126.g)
        replace B9 := B9.grow (N126.g)
        replace B123 := B123.grow (N126.g)
        have B126 := N126.blk
        refine sr_pure rfl (rc_call go_syntax_kids ev_f (args_cons (ev_t rfl) (args_cons (ev_t rfl) (args_nil))) rfl) (kids_ok t _ _ D [fun k => expK k || memK [9] k, memK [10]] _ _ _ _ _ (hk.grow g) rfl B126.row (fun i h => by match i, h with | 0, _ => exact hA124.grow gm124 | 1, _ => exact hA8.grow gm8) hc) (fun w127 g127 => ?_)
        have g := g.trans (g127)
        try have gm8 := gm8.trans (g127)
        try have gm10 := gm10.trans (g127)
        try have gm124 := gm124.trans (g127)
        replace B1 := B1.grow (g127)
        replace B7 := B7.grow (g127)
        replace B9 := B9.grow (g127)
        replace B123 := B123.grow (g127)
        replace B126 := B126.grow (g127)
        refine sr_pu rfl (fun _ => rd_assign (ev_t rfl)) ?_
        refine sr_sub [(2, _, _)] (sub_cons rfl (sub_nil _)) ?_
        refine sr_nil (hK49 _ _ ?_)
        refine sc_ret (t_ret1 rfl rfl ?_)
        refine ⟨congrArg Value.bool ?_, g⟩
        unfold formB; simp only [anyK, h1, h5, h6, h7, h8, h9, h18, h22, h23, h25, h26, h27, cond_true, cond_false] <;> rfl
      (try simp only [bsimp] at h27)
      refine sc_seq fun K50 hK50 => ?_
      refine sc_text [3, 3] ?_
      refine sr_pu rfl (fun _ => rd_eq (ev_t rfl) ev_c) ?_
      refine sr_pu rfl (fun _ => rd_assign (ev_t rfl)) ?_
      refine sr_sub [(1, _, _), (2, _, _), (3, _, _), (12, _, _), (128, _, _)] (sub_cons rfl (sub_cons rfl (sub_cons rfl (sub_cons rfl (sub_cons rfl (sub_nil _)))))) ?_
      refine sr_nil (hK50 _ _ ?_)
      refine sc_cond (ev_t rfl) (fun h28 => ?_) (fun h28 => ?_)
      · (try simp only [bsimp] at h28)
        refine sc_seq fun K51 hK51 => ?_
        refine sc_text [3, 0, 3, 3, 3, 0, 1, 1, 3, 3] ?_
        refine sr_pu rfl (fun _ => rd_field fo_api_Node_4 (ev_t rfl)) ?_
        refine sr_rd rfl (rd_load one_sl_api_Node (ev_t rfl) (fun _ => B1.at_ rfl)) ?_
        refine sr_pu rfl (fun _ => rd_len el_sl_api_Node (ev_t rfl)) ?_
        refine sr_pu rfl (fun _ => rd_eq (ev_t rfl) ev_c) ?_
        refine sr_pu rfl (fun _ => rd_move (ev_t rfl)) ?_
        refine sr_rdg rfl rfl rfl (rd_loads agg_api_Node (ev_t rfl) rfl (fun _ => B1.row)) ?_
        refine sr_buildSliceg [_] rfl rfl rfl el_sl_func_int_bool ze_func_int_bool (parts_cons ev_f (parts_nil)) rfl rfl ?_
        intro b136 w136 g136 hB136
        have g := g.trans (g136)
        try have gm8 := gm8.trans (g136)
        try have gm10 := gm10.trans (g136)
        replace B1 := B1.grow (g136)
        replace B7 := B7.grow (g136)
        replace B9 := B9.grow (g136)
        refine sr_pureg rfl rfl rfl (fun _ => (rc_call go_syntax_kids ev_f (args_cons (ev_u rfl id) (args_cons (ev_u rfl id) (args_nil))) rfl)) (fun hc => kids_ok t _ _ D [expK] _ _ _ _ _ (hk.grow g) rfl (hB136 hc).row (fun i h => by match i, h with | 0, _ => exact fnV_of go_syntax_expression expression_ok _) hc0) (fun w137 g137 => ?_)
        have g := g.trans (g137)
        try have gm8 := gm8.trans (g137)
        try have gm10 := gm10.trans (g137)
        replace B1 := B1.grow (g137)
        replace B7 := B7.grow (g137)
        replace B9 := B9.grow (g137)
        refine sr_pu rfl (fun _ => rd_pick_or (ev_t rfl) (ev_u rfl id)) ?_
        refine sr_pu rfl (fun _ => rd_assign (ev_t rfl)) ?_
        refine sr_sub [(2, _, _)] (sub_cons rfl (sub_nil _)) ?_
        refine sr_nil (hK51 _ _ ?_)
        refine sc_ret (t_ret1 rfl rfl ?_)
        refine ⟨congrArg Value.bool ?_, g⟩
        unfold formB; simp only [anyK, h1, h5, h6, h7, h8, h9, h18, h22, h23, h25, h26, h27, h28, cond_true, cond_false] <;> rfl
      (try simp only [bsimp] at h28)
      refine sc_seq fun K52 hK52 => ?_
      refine sc_text [3, 3] ?_
      refine sr_pu rfl (fun _ => rd_eq (ev_t rfl) ev_c) ?_
      refine sr_pu rfl (fun _ => rd_assign (ev_t rfl)) ?_
      refine sr_sub [(1, _, _), (2, _, _), (3, _, _), (12, _, _), (139, _, _)] (sub_cons rfl (sub_cons rfl (sub_cons rfl (sub_cons rfl (sub_cons rfl (sub_nil _)))))) ?_
      refine sr_nil (hK52 _ _ ?_)
      refine sc_cond (ev_t rfl) (fun h29 => ?_) (fun h29 => ?_)
      · (try simp only [bsimp] at h29)
        refine sc_seq fun K53 hK53 => ?_
        refine sc_draw [0, 1, 1, 1, 3] [true, true, true, true, true] [0, 0, 2, 7, 15] mix (by kernel_rfl) ?_
        have g := g.trans (G.drew _)
        try have gm8 := gm8.trans (G.drew _)
        try have gm10 := gm10.trans (G.drew _)
        replace B1 := B1.grow (G.drew _)
        replace B7 := B7.grow (G.drew _)
        replace B9 := B9.grow (G.drew _)
        refine sr_rd rfl (rd_loads agg_api_Node (ev_t rfl) rfl (fun _ => B1.row)) ?_
        refine sr_buildSlice [_] rfl el_sl_int ze_int (parts_cons ev_c (parts_nil)) rfl rfl ?_
        intro b142 w142 N142
        have x142_1 := N142.ne B1
        have x142_7 := N142.ne B7
        have x142_9 := N142.ne B9
        have l142 := N142.ge g
        try have l142_gm8 := N142.ge gm8
        try have l142_gm10 := N142.ge gm10
        have g := g.trans (N142.g)
        try have gm8 := gm8.trans (N142.g)
        try have gm10 := gm10.trans (N142.g)
        replace B1 := B1.grow (N142.g)
        replace B7 := B7.grow (N142.g)
        replace B9 := B9.grow (N142.g)
        have B142 := N142.blk
        refine sr_call rfl (rc_call go_syntax_among ev_f (args_cons (ev_t rfl) (args_nil)) rfl) (among_ok [23] _ _ _ _ B142.row (by decide)) ?_
        rintro v143 w143 ⟨hA143, g143⟩
        have hq143 := hA143
        obtain ⟨f143, fs143, cs143, rfl, hgo143, hf143⟩ := hq143
        refine ⟨fun _ => g143, ?_⟩
        have g := g.trans g143
        try have gm8 := gm8.trans (g143)
        try have gm10 := gm10.trans (g143)
        replace B1 := B1.grow (g143)
        replace B7 := B7.grow (g143)
        replace B9 := B9.grow (g143)
        replace B142 := B142.grow (g143)
        have gm143 := G.refl w143
        refine sr_pure rfl (rc_call go_syntax_every ev_f (args_cons (ev_t rfl) (args_cons ev_c (args_cons (ev_t rfl) (args_nil)))) rfl) (every_ok t _ _ D (memK [23]) _ _ (hk.grow g) (hA143.grow gm143) hc) (fun w144 g144 => ?_)
        have g := g.trans (g144)
        try have gm8 := gm8.trans (g144)
        try have gm10 := gm10.trans (g144)
        try have gm143 := gm143.trans (g144)
        replace B1 := B1.grow (g144)
        replace B7 := B7.grow (g144)
        replace B9 := B9.grow (g144)
        replace B142 := B142.grow (g144)
        refine sr_pu rfl (fun _ => rd_assign (ev_t rfl)) ?_
        refine sr_sub [(2, _, _)] (sub_cons rfl (sub_nil _)) ?_
        refine sr_nil (hK53 _ _ ?_)
        refine sc_ret (t_ret1 rfl rfl ?_)
        refine ⟨congrArg Value.bool ?_, g⟩
        unfold formB; simp only [anyK, h1, h5, h6, h7, h8, h9, h18, h22, h23, h25, h26, h27, h28, h29, cond_true, cond_false] <;> rfl
      (try simp only [bsimp] at h29)
      refine sc_seq fun K54 hK54 => ?_
      refine sc_text [3, 3] ?_
      refine sr_pu rfl (fun _ => rd_eq (ev_t rfl) ev_c) ?_
      refine sr_pu rfl (fun _ => rd_assign (ev_t rfl)) ?_
      refine sr_sub [(1, _, _), (2, _, _), (3, _, _), (12, _, _), (145, _, _)] (sub_cons rfl (sub_cons rfl (sub_cons rfl (sub_cons rfl (sub_cons rfl (sub_nil _)))))) ?_
      refine sr_nil (hK54 _ _ ?_)
      refine sc_cond (ev_t rfl) (fun h30 => ?_) (fun h30 => ?_)
      · (try simp only [bsimp] at h30)
        refine sc_seq fun K55 hK55 => ?_
        refine sc_text [3, 0, 3, 3, 3, 3, 0, 3, 0, 1, 3, 3, 3, 3, 0, 3, 3, 0, 1, 3, 3] ?_
        obtain ⟨p0, c0, h0x⟩ := kd_optx hk 0
        obtain ⟨p1, c1, h1x⟩ := kd_optx hk 1
        refine sr_pu rfl (fun _ => rd_field fo_api_Node_4 (ev_t rfl)) ?_
        refine sr_rd rfl (rd_load one_sl_api_Node (ev_t rfl) (fun _ => B1.at_ rfl)) ?_
        refine sr_pu rfl (fun _ => rd_len el_sl_api_Node (ev_t rfl)) ?_
        refine sr_pu rfl (fun _ => rd_eq (ev_t rfl) ev_c) ?_
        refine sr_pu rfl (fun _ => rd_move (ev_t rfl)) ?_
        refine sr_pug rfl rfl rfl (fun _ => rd_field fo_api_Node_4 (ev_t rfl)) ?_
        refine sr_rdg rfl rfl rfl (rd_load one_sl_api_Node (ev_u rfl id) (fun _ => B1.at_ rfl)) ?_
        refine sr_pug rfl rfl rfl (fun _ => rd_idxq el_sl_api_Node (ev_u rfl id) ev_c (fun hc => by have := of_decide_eq_true hc.2; omega) (fun hc => (h0x (by have := of_decide_eq_true hc.2; omega)).1)) ?_
        refine sr_rdg rfl rfl rfl (rd_loads agg_api_Node (ev_u rfl id) rfl (fun hc => (h0x (by have := of_decide_eq_true hc.2; omega)).2.1.grow g)) ?_
        refine sr_pureg rfl rfl rfl (fun _ => (rc_call go_syntax_communication ev_f (args_cons (ev_u rfl id) (args_nil)) rfl)) (fun hc => comm_ok (kidAt t 0) _ _ D _ ((h0x (by have := of_decide_eq_true hc.2; omega)).2.2.grow g) (hcc 0)) (fun w156 g156 => ?_)
        have g := g.trans (g156)
        try have gm8 := gm8.trans (g156)
        try have gm10 := gm10.trans (g156)
        replace B1 := B1.grow (g156)
        replace B7 := B7.grow (g156)
        replace B9 := B9.grow (g156)
        refine sr_pu rfl (fun _ => rd_pick_and (ev_t rfl) (ev_u rfl id)) ?_
        refine sr_pu rfl (fun _ => rd_move (ev_t rfl)) ?_
        refine sr_pug rfl rfl rfl (fun _ => rd_move (ev_t rfl)) ?_
        refine sr_pug rfl rfl rfl (fun _ => rd_field fo_api_Node_4 (ev_t rfl)) ?_
        refine sr_rdg rfl rfl rfl (rd_load one_sl_api_Node (ev_u rfl id) (fun _ => B1.at_ rfl)) ?_
        refine sr_pug rfl rfl rfl (fun _ => rd_idxq el_sl_api_Node (ev_u rfl id) ev_c (fun hc => by have := of_decide_eq_true (Bool.and_eq_true_iff.1 hc.2).1; omega) (fun hc => (h1x (by have := of_decide_eq_true (Bool.and_eq_true_iff.1 hc.2).1; omega)).1)) ?_
        refine sr_pug rfl rfl rfl (fun _ => rd_field fo_api_Node_0 (ev_u rfl id)) ?_
        refine sr_rdg rfl rfl rfl (rd_load one_int (ev_u rfl id) (fun hc => ((h1x (by have := of_decide_eq_true (Bool.and_eq_true_iff.1 hc.2).1; omega)).2.1.grow g) 0 _ rfl)) ?_
        refine sr_pureg rfl rfl rfl (fun _ => (rc_call hgo8 (ev_u rfl id) (args_cons (ev_u rfl id) (args_nil)) rfl)) (fun hc => hf8 _ _ gm8) (fun w165 g165 => ?_)
        have g := g.trans (g165)
        try have gm8 := gm8.trans (g165)
        try have gm10 := gm10.trans (g165)
        replace B1 := B1.grow (g165)
        replace B7 := B7.grow (g165)
        replace B9 := B9.grow (g165)
        refine sr_pu rfl (fun _ => rd_pick_and (ev_t rfl) (ev_u rfl id)) ?_
        refine sr_pu rfl (fun _ => rd_assign (ev_t rfl)) ?_
        refine sr_sub [(2, _, _)] (sub_cons rfl (sub_nil _)) ?_
        refine sr_nil (hK55 _ _ ?_)
        refine sc_ret (t_ret1 rfl rfl ?_)
        refine ⟨congrArg Value.bool ?_, g⟩
        unfold formB; simp only [anyK, h1, h5, h6, h7, h8, h9, h18, h22, h23, h25, h26, h27, h28, h29, h30, cond_true, cond_false] <;> rfl
      (try simp only [bsimp] at h30)
      refine sc_seq fun K56 hK56 => ?_
      refine sc_text [3, 3] ?_
      refine sr_pu rfl (fun _ => rd_eq (ev_t rfl) ev_c) ?_
      refine sr_pu rfl (fun _ => rd_assign (ev_t rfl)) ?_
      refine sr_sub [(1, _, _), (2, _, _), (3, _, _), (12, _, _), (167, _, _)] (sub_cons rfl (sub_cons rfl (sub_cons rfl (sub_cons rfl (sub_cons rfl (sub_nil _)))))) ?_
      refine sr_nil (hK56 _ _ ?_)
      refine sc_cond (ev_t rfl) (fun h31 => ?_) (fun h31 => ?_)
      · (try simp only [bsimp] at h31)
        refine sc_seq fun K57 hK57 => ?_
        refine sc_text [3, 0, 3, 3, 3, 0, 1, 3, 3] ?_
        refine sr_pu rfl (fun _ => rd_field fo_api_Node_4 (ev_t rfl)) ?_
        refine sr_rd rfl (rd_load one_sl_api_Node (ev_t rfl) (fun _ => B1.at_ rfl)) ?_
        refine sr_pu rfl (fun _ => rd_len el_sl_api_Node (ev_t rfl)) ?_
        refine sr_pu rfl (fun _ => rd_gt (ev_t rfl) ev_c) ?_
        refine sr_pu rfl (fun _ => rd_move (ev_t rfl)) ?_
        refine sr_rdg rfl rfl rfl (rd_loads agg_api_Node (ev_t rfl) rfl (fun _ => B1.row)) ?_
        refine sr_pureg rfl rfl rfl (fun _ => (rc_call go_syntax_every ev_f (args_cons (ev_u rfl id) (args_cons ev_c (args_cons ev_f (args_nil)))) rfl)) (fun hc => every_ok t _ _ D expK _ _ (hk.grow g) (fnV_of go_syntax_expression expression_ok _) hc0) (fun w175 g175 => ?_)
        have g := g.trans (g175)
        try have gm8 := gm8.trans (g175)
        try have gm10 := gm10.trans (g175)
        replace B1 := B1.grow (g175)
        replace B7 := B7.grow (g175)
        replace B9 := B9.grow (g175)
        refine sr_pu rfl (fun _ => rd_pick_and (ev_t rfl) (ev_u rfl id)) ?_
        refine sr_pu rfl (fun _ => rd_assign (ev_t rfl)) ?_
        refine sr_sub [(2, _, _)] (sub_cons rfl (sub_nil _)) ?_
        refine sr_nil (hK57 _ _ ?_)
        refine sc_ret (t_ret1 rfl rfl ?_)
        refine ⟨congrArg Value.bool ?_, g⟩
        unfold formB; simp only [anyK, h1, h5, h6, h7, h8, h9, h18, h22, h23, h25, h26, h27, h28, h29, h30, h31, cond_true, cond_false] <;> rfl
      (try simp only [bsimp] at h31)
      refine sc_seq fun K58 hK58 => ?_
      refine sc_text [3, 3] ?_
      refine sr_pu rfl (fun _ => rd_eq (ev_t rfl) ev_c) ?_
      refine sr_pu rfl (fun _ => rd_assign (ev_t rfl)) ?_
      refine sr_sub [(1, _, _), (2, _, _), (3, _, _), (12, _, _), (177, _, _)] (sub_cons rfl (sub_cons rfl (sub_cons rfl (sub_cons rfl (sub_cons rfl (sub_nil _)))))) ?_
      refine sr_nil (hK58 _ _ ?_)
      refine sc_cond (ev_t rfl) (fun h32 => ?_) (fun h32 => ?_)
      · (try simp only [bsimp] at h32)
        refine sc_seq fun K59 hK59 => ?_
        refine sc_text [3, 0, 3, 3, 3, 3, 0, 3, 3, 3] ?_
        refine sr_pu rfl (fun _ => rd_field fo_api_Node_4 (ev_t rfl)) ?_
        refine sr_rd rfl (rd_load one_sl_api_Node (ev_t rfl) (fun _ => B1.at_ rfl)) ?_
        refine sr_pu rfl (fun _ => rd_len el_sl_api_Node (ev_t rfl)) ?_
        refine sr_pu rfl (fun _ => rd_eq (ev_t rfl) ev_c) ?_
        refine sr_pu rfl (fun _ => rd_move (ev_t rfl)) ?_
        refine sr_pug rfl rfl rfl (fun _ => rd_field fo_api_Node_2 (ev_t rfl)) ?_
        refine sr_rdg rfl rfl rfl (rd_load one_int (ev_u rfl id) (fun _ => B1.at_ rfl)) ?_
        refine sr_pug rfl rfl rfl (fun _ => rd_ge (ev_u rfl id) ev_c) ?_
        refine sr_pu rfl (fun _ => rd_pick_and (ev_t rfl) (ev_u rfl id)) ?_
        refine sr_pu rfl (fun _ => rd_assign (ev_t rfl)) ?_
        refine sr_sub [(2, _, _)] (sub_cons rfl (sub_nil _)) ?_
        refine sr_nil (hK59 _ _ ?_)
        refine sc_ret (t_ret1 rfl rfl ?_)
        refine ⟨congrArg Value.bool ?_, g⟩
        unfold formB; simp only [anyK, h1, h5, h6, h7, h8, h9, h18, h22, h23, h25, h26, h27, h28, h29, h30, h31, h32, cond_true, cond_false] <;> rfl
      (try simp only [bsimp] at h32)
      refine sc_seq fun K60 hK60 => ?_
      refine sc_text [3, 3] ?_
      refine sr_pu rfl (fun _ => rd_eq (ev_t rfl) ev_c) ?_
      refine sr_pu rfl (fun _ => rd_assign (ev_t rfl)) ?_
      refine sr_sub [(1, _, _), (2, _, _), (3, _, _), (12, _, _), (188, _, _)] (sub_cons rfl (sub_cons rfl (sub_cons rfl (sub_cons rfl (sub_cons rfl (sub_nil _)))))) ?_
      refine sr_nil (hK60 _ _ ?_)
      refine sc_cond (ev_t rfl) (fun h33 => ?_) (fun h33 => ?_)
      · (try simp only [bsimp] at h33)
        refine sc_seq fun K61 hK61 => ?_
        refine sc_text [3, 0, 3, 3, 3, 3, 0, 3, 3, 3, 0, 3, 3, 3, 3] ?_
        refine sr_pu rfl (fun _ => rd_field fo_api_Node_4 (ev_t rfl)) ?_
        refine sr_rd rfl (rd_load one_sl_api_Node (ev_t rfl) (fun _ => B1.at_ rfl)) ?_
        refine sr_pu rfl (fun _ => rd_len el_sl_api_Node (ev_t rfl)) ?_
        refine sr_pu rfl (fun _ => rd_eq (ev_t rfl) ev_c) ?_
        refine sr_pu rfl (fun _ => rd_move (ev_t rfl)) ?_
        refine sr_pug rfl rfl rfl (fun _ => rd_field fo_api_Node_2 (ev_t rfl)) ?_
        refine sr_rdg rfl rfl rfl (rd_load one_int (ev_u rfl id) (fun _ => B1.at_ rfl)) ?_
        refine sr_pug rfl rfl rfl (fun _ => rd_eq (ev_u rfl id) ev_c) ?_
        refine sr_pug rfl rfl rfl (fun _ => rd_move (ev_u rfl id)) ?_
        refine sr_pug rfl rfl rfl (fun _ => rd_field fo_api_Node_2 (ev_t rfl)) ?_
        refine sr_rdg rfl rfl rfl (rd_load one_int (ev_u rfl id) (fun _ => B1.at_ rfl)) ?_
        refine sr_pug rfl rfl rfl (fun _ => rd_eq (ev_u rfl id) ev_c) ?_
        refine sr_pug rfl rfl rfl (fun _ => rd_pick_or (ev_u rfl id) (ev_u rfl id)) ?_
        refine sr_pu rfl (fun _ => rd_pick_and (ev_t rfl) (ev_u rfl id)) ?_
        refine sr_pu rfl (fun _ => rd_assign (ev_t rfl)) ?_
        refine sr_sub [(2, _, _)] (sub_cons rfl (sub_nil _)) ?_
        refine sr_nil (hK61 _ _ ?_)
        refine sc_ret (t_ret1 rfl rfl ?_)
        refine ⟨congrArg Value.bool ?_, g⟩
        unfold formB; simp only [anyK, h1, h5, h6, h7, h8, h9, h18, h22, h23, h25, h26, h27, h28, h29, h30, h31, h32, h33, cond_true, cond_false] <;> rfl
      (try simp only [bsimp] at h33)
      refine sc_seq fun K62 hK62 => ?_
      refine sc_seq fun K63 hK63 => ?_
      refine sc_text [3, 3] ?_
      refine sr_pu rfl (fun _ => rd_eq (ev_t rfl) ev_c) ?_
      refine sr_pu rfl (fun _ => rd_assign (ev_t rfl)) ?_
      refine sr_sub [(1, _, _), (2, _, _), (3, _, _), (12, _, _), (204, _, _)] (sub_cons rfl (sub_cons rfl (sub_cons rfl (sub_cons rfl (sub_cons rfl (sub_nil _)))))) ?_
      refine sr_nil (hK63 _ _ ?_)
      refine' sc_or [(1, _, _), (2, _, _), (3, _, _), (12, _, _)] (sub_cons rfl (sub_cons rfl (sub_cons rfl (sub_cons rfl (sub_cons rfl (sub_nil _)))))) rfl (fun hb34 => ?y34) (hK62 _ _ ?n34)
      case y34 =>
       refine sc_seq fun K64 hK64 => ?_
       refine sc_text [3, 3] ?_
       refine sr_pu rfl (fun _ => rd_eq (ev_t rfl) ev_c) ?_
       refine sr_pu rfl (fun _ => rd_assign (ev_t rfl)) ?_
       refine sr_sub [(1, _, _), (2, _, _), (3, _, _), (12, _, _), (204, _, _)] (sub_cons rfl (sub_cons rfl (sub_cons rfl (sub_cons rfl (sub_cons rfl (sub_nil _)))))) ?_
       refine sr_nil (hK64 _ _ ?_)
       refine' sc_or [(1, _, _), (2, _, _), (3, _, _), (12, _, _)] (sub_cons rfl (sub_cons rfl (sub_cons rfl (sub_cons rfl (sub_cons rfl (sub_nil _)))))) rfl (fun hb35 => ?y35) (fun a ha => ⟨ha, rfl⟩)
       case y35 =>
        refine sc_seq fun K65 hK65 => ?_
        refine sc_text [3, 3] ?_
        refine sr_pu rfl (fun _ => rd_eq (ev_t rfl) ev_c) ?_
        refine sr_pu rfl (fun _ => rd_assign (ev_t rfl)) ?_
        refine sr_sub [(1, _, _), (2, _, _), (3, _, _), (12, _, _), (204, _, _)] (sub_cons rfl (sub_cons rfl (sub_cons rfl (sub_cons rfl (sub_cons rfl (sub_nil _)))))) ?_
        refine sr_nil (hK65 _ _ ?_)
        refine' sc_or [(1, _, _), (2, _, _), (3, _, _), (12, _, _)] (sub_cons rfl (sub_cons rfl (sub_cons rfl (sub_cons rfl (sub_cons rfl (sub_nil _)))))) rfl (fun hb36 => ?y36) (fun a ha => ⟨ha, rfl⟩)
        case y36 =>
         refine sc_seq fun K66 hK66 => ?_
         refine sc_text [3, 3] ?_
         refine sr_pu rfl (fun _ => rd_eq (ev_t rfl) ev_c) ?_
         refine sr_pu rfl (fun _ => rd_assign (ev_t rfl)) ?_
         refine sr_sub [(1, _, _), (2, _, _), (3, _, _), (12, _, _), (204, _, _)] (sub_cons rfl (sub_cons rfl (sub_cons rfl (sub_cons rfl (sub_cons rfl (sub_nil _)))))) ?_
         refine sr_nil (hK66 _ _ ?_)
         refine' sc_or [(1, _, _), (2, _, _), (3, _, _), (12, _, _)] (sub_cons rfl (sub_cons rfl (sub_cons rfl (sub_cons rfl (sub_cons rfl (sub_nil _)))))) rfl (fun hb37 => ?y37) (fun a ha => ⟨ha, rfl⟩)
         case y37 =>
          refine sc_seq fun K67 hK67 => ?_
          refine sc_text [3, 3] ?_
          refine sr_pu rfl (fun _ => rd_eq (ev_t rfl) ev_c) ?_
          refine sr_pu rfl (fun _ => rd_assign (ev_t rfl)) ?_
          refine sr_sub [(1, _, _), (2, _, _), (3, _, _), (12, _, _), (204, _, _)] (sub_cons rfl (sub_cons rfl (sub_cons rfl (sub_cons rfl (sub_cons rfl (sub_nil _)))))) ?_
          refine sr_nil (hK67 _ _ ?_)
          refine' sc_or [(1, _, _), (2, _, _), (3, _, _), (12, _, _)] (sub_cons rfl (sub_cons rfl (sub_cons rfl (sub_cons rfl (sub_cons rfl (sub_nil _)))))) rfl (fun hb38 => ?y38) (fun a ha => ⟨ha, rfl⟩)
          case y38 =>
           refine sc_text [3, 3] ?_
           refine sr_pu rfl (fun _ => rd_eq (ev_t rfl) ev_c) ?_
           refine sr_pu rfl (fun _ => rd_assign (ev_t rfl)) ?_
           refine sr_sub [(204, _, _), (1, _, _), (2, _, _), (3, _, _), (12, _, _)] (sub_cons rfl (sub_cons rfl (sub_cons rfl (sub_cons rfl (sub_cons rfl (sub_nil _)))))) ?_
           exact sr_nil (fun a ha => ⟨ha, rfl⟩)
      case n34 =>
       refine sc_cond (ev_t rfl) (fun h39 => ?_) (fun h39 => ?_)
       · (try simp only [bsimp] at h39)
         refine sc_seq fun K68 hK68 => ?_
         refine sc_text [3, 0, 3, 3, 3] ?_
         refine sr_pu rfl (fun _ => rd_field fo_api_Node_4 (ev_t rfl)) ?_
         refine sr_rd rfl (rd_load one_sl_api_Node (ev_t rfl) (fun _ => B1.at_ rfl)) ?_
         refine sr_pu rfl (fun _ => rd_len el_sl_api_Node (ev_t rfl)) ?_
         refine sr_pu rfl (fun _ => rd_eq (ev_t rfl) ev_c) ?_
         refine sr_pu rfl (fun _ => rd_assign (ev_t rfl)) ?_
         refine sr_sub [(2, _, _)] (sub_cons rfl (sub_nil _)) ?_
         refine sr_nil (hK68 _ _ ?_)
         refine sc_ret (t_ret1 rfl rfl ?_)
         refine ⟨congrArg Value.bool ?_, g⟩
         unfold formB; simp only [anyK, h1, h5, h6, h7, h8, h9, h18, h22, h23, h25, h26, h27, h28, h29, h30, h31, h32, h33, h39, cond_true, cond_false] <;> rfl
       (try simp only [bsimp] at h39)
       refine sc_seq fun K69 hK69 => ?_
       refine sc_text [3, 3] ?_
       refine sr_pu rfl (fun _ => rd_eq (ev_t rfl) ev_c) ?_
       refine sr_pu rfl (fun _ => rd_assign (ev_t rfl)) ?_
       refine sr_sub [(1, _, _), (2, _, _), (3, _, _), (215, _, _)] (sub_cons rfl (sub_cons rfl (sub_cons rfl (sub_cons rfl (sub_nil _))))) ?_
       refine sr_nil (hK69 _ _ ?_)
       refine sc_cond (ev_t rfl) (fun h40 => ?_) (fun h40 => ?_)
       · (try simp only [bsimp] at h40)
         refine sc_seq fun K70 hK70 => ?_
         refine sc_text [0, 3, 1, 1, 3] ?_
         refine sr_rd rfl (rd_loads agg_api_Node (ev_t rfl) rfl (fun _ => B1.row)) ?_
         refine sr_pu rfl (fun _ => rd_move (ev_t rfl)) ?_
         refine sr_buildSlice [_] rfl el_sl_func_int_bool ze_func_int_bool (parts_cons (ev_t rfl) (parts_nil)) rfl rfl ?_
         intro b219 w219 N219
         have x219_1 := N219.ne B1
         have x219_7 := N219.ne B7
         have x219_9 := N219.ne B9
         have l219 := N219.ge g
         try have l219_gm8 := N219.ge gm8
         try have l219_gm10 := N219.ge gm10
         have g := g.trans (N219.g)
         try have gm8 := gm8.trans (N219.g)
         try have gm10 := gm10.trans (N219.g)
         replace B1 := B1.grow (N219.g)
         replace B7 := B7.grow (N219.g)
         replace B9 := B9.grow (N219.g)
         have B219 := N219.blk
         refine sr_pure rfl (rc_call go_syntax_kids ev_f (args_cons (ev_t rfl) (args_cons (ev_t rfl) (args_nil))) rfl) (kids_ok t _ _ D [memK [10]] _ _ _ _ _ (hk.grow g) rfl B219.row (fun i h => by match i, h with | 0, _ => exact hA8.grow gm8) hc) (fun w220 g220 => ?_)
         have g := g.trans (g220)
         try have gm8 := gm8.trans (g220)
         try have gm10 := gm10.trans (g220)
         replace B1 := B1.grow (g220)
         replace B7 := B7.grow (g220)
         replace B9 := B9.grow (g220)
         replace B219 := B219.grow (g220)
         refine sr_pu rfl (fun _ => rd_assign (ev_t rfl)) ?_
         refine sr_sub [(2, _, _)] (sub_cons rfl (sub_nil _)) ?_
         refine sr_nil (hK70 _ _ ?_)
         refine sc_ret (t_ret1 rfl rfl ?_)
         refine ⟨congrArg Value.bool ?_, g⟩
         unfold formB; simp only [anyK, h1, h5, h6, h7, h8, h9, h18, h22, h23, h25, h26, h27, h28, h29, h30, h31, h32, h33, h39, h40, cond_true, cond_false] <;> rfl
       (try simp only [bsimp] at h40)
       refine sc_skip (hK3 _ _ ?_)
       refine sc_sub [(2, _, _)] (sub_cons rfl (sub_nil _)) ?_
       refine sc_seq fun K71 hK71 => ?_
       refine sc_text [3] ?_
       refine sr_pu rfl (fun _ => rd_assign ev_c) ?_
       refine sr_nil (hK71 _ _ ?_)
       refine sc_ret (t_ret1 rfl rfl ?_)
       refine ⟨congrArg Value.bool ?_, g⟩
       unfold formB; simp only [anyK, h1, h5, h6, h7, h8, h9, h18, h22, h23, h25, h26, h27, h28, h29, h30, h31, h32, h33, h39, h40, cond_true, cond_false] <;> rfl
end Go.Rk
namespace Go.Rk
open Go Go.RowKit
def locB (t : Nd) : Bool := textB' t && formB t
def permF (t : Nd) : Bool := para (fun t l => locB t && l.all id) t
theorem permF_eq (t : Nd) : permF t = (locB t && t.kids.all permF) := by
  rw [permF, para_eq, List.all_map]; rfl
def maxL (l : List Nat) : Nat := l.foldl max 0
def depthN (t : Nd) : Nat := para (fun _ l => maxL l + 1) t
theorem depthN_eq (t : Nd) : depthN t = maxL (t.kids.map depthN) + 1 := para_eq _ t
theorem foldl_max_le (l : List Nat) (a d : Nat) : l.foldl max a ≤ d ↔ a ≤ d ∧ ∀ x ∈ l, x ≤ d := by
  induction l generalizing a with
  | nil => simp
  | cons x xs ih => simp only [List.foldl_cons, ih, List.forall_mem_cons, Nat.max_le, and_assoc]
theorem maxL_le (l : List Nat) (d : Nat) : maxL l ≤ d ↔ ∀ x ∈ l, x ≤ d := by
  rw [maxL, foldl_max_le]; exact ⟨fun h => h.2, fun h => ⟨Nat.zero_le _, h⟩⟩
theorem depthN_le (t : Nd) (d : Nat) : depthN t ≤ d ↔ 0 < d ∧ ∀ k ∈ t.kids, depthN k ≤ d - 1 := by
  rw [depthN_eq]
  constructor
  · intro h
    refine ⟨by omega, fun k hk => ?_⟩
    have := (maxL_le (t.kids.map depthN) (d - 1)).1 (by omega)
    exact this _ (List.mem_map_of_mem hk)
  · rintro ⟨h0, h⟩
    have := (maxL_le (t.kids.map depthN) (d - 1)).2 (fun x hx => by obtain ⟨k, hk, rfl⟩ := List.mem_map.1 hx; exact h k hk)
    omega
theorem depthN_pos (t : Nd) : 1 ≤ depthN t := by rw [depthN_eq]; omega
def permB (d : Nat) (t : Nd) : Bool := permF t && decide (depthN t ≤ d)
theorem permB_zero (t : Nd) : permB 0 t = false := by
  have := depthN_pos t
  rw [permB, decide_eq_false (by omega), Bool.and_false]
theorem permB_eq {d : Nat} (h : 0 < d) (t : Nd) : permB d t = ((textB' t && formB t) && t.kids.all (permB (d - 1))) := by
  rw [Bool.eq_iff_iff, permB, permF_eq, locB]
  simp only [Bool.and_eq_true, decide_eq_true_eq, depthN_le t d, List.all_eq_true, permB]
  constructor
  · rintro ⟨⟨h1, h2⟩, _, h3⟩; exact ⟨h1, fun k hk => ⟨h2 k hk, h3 k hk⟩⟩
  · rintro ⟨h1, h2⟩; exact ⟨⟨h1, fun k hk => (h2 k hk).1⟩, h, fun k hk => (h2 k hk).2⟩
theorem kidAt_len {t : Nd} {n : Nat} (h : count t ≤ n) (i : Nat) : (kidAt t i).kids.length ≤ n := by
  by_cases hi : i < t.kids.length
  · rw [kidAt_eq hi]
    have := count_mem (List.getElem_mem hi)
    have := kids_le t.kids[i]
    omega
  · have : kidAt t i = nd0 := by simp only [kidAt, List.getD_eq_getElem?_getD]; rw [List.getElem?_eq_none (by omega)]; rfl
    rw [this]; exact Nat.zero_le _
theorem permitted_ok : ∀ (t : Nd) (v : Value) (D : Nat → Prop) (d : Nat) (w : World), Laid w → 4 ≤ w.heap.size → Kd w D t.kids v → count t ≤ 1000000 → d ≤ 1000000 → Ret PP fn_syntax_permitted #[ndV t v, .int .i64 (d : Int)] w fun r w' => r = .bool (permB d t) ∧ G w w' := by
  refine Nd.ind fun t ih v D d w hL hb3 hk hcn hd => ?_
  have hk0 := hk
  obtain ⟨p, c, rfl, hcap, hks⟩ := hk
  have g := G.refl w
  have hlen := kids_le t
  refine ret_of_sc (m := 32) func_syntax_permitted rfl rfl [(0, True, _), (1, True, _)] (sub_cons rfl (sub_cons rfl (sub_nil _))) ?_
  refine sc_seq fun K1 hK1 => ?_
  refine sc_text [1, 3] ?_
  refine sr_box rfl (ev_t rfl) rfl ?_
  intro b2 w2 N2
  have l2 := N2.ge g
  have g := g.trans (N2.g)
  have B2 := N2.blk
  refine sr_pu rfl (fun _ => rd_assign ev_c) ?_
  refine sr_sub [(1, _, _), (2, _, _), (4, _, _)] (sub_cons rfl (sub_cons rfl (sub_cons rfl (sub_nil _)))) ?_
  refine sr_nil (hK1 _ _ ?_)
  refine sc_seq fun K2 hK2 => ?_
  refine sc_seq fun K3 hK3 => ?_
  refine sc_text [3, 3, 3, 0, 1, 3, 3, 3, 0, 1, 3, 3] ?_
  refine sr_pu rfl (fun _ => rd_move (ev_t rfl)) ?_
  refine sr_pu rfl (fun _ => rd_eq (ev_t rfl) ev_c) ?_
  refine sr_pu rfl (fun _ => rd_move (ev_t rfl)) ?_
  refine sr_rdg rfl rfl rfl (rd_loads agg_api_Node (ev_t rfl) rfl (fun _ => B2.row)) ?_
  refine sr_pureg rfl rfl rfl (fun _ => (rc_call go_syntax_text ev_f (args_cons (ev_u rfl id) (args_nil)) rfl)) (fun hc => stext_ok t _ _ _ (hL.grow g) (by have := g.size; omega)) (fun w11 g11 => ?_)
  have g := g.trans (g11)
  replace B2 := B2.grow (g11)
  refine sr_pug rfl rfl rfl (fun _ => rd_not (ev_u rfl id)) ?_
  refine sr_pu rfl (fun _ => rd_pick_or (ev_t rfl) (ev_u rfl id)) ?_
  refine sr_pu rfl (fun _ => rd_move (ev_t rfl)) ?_
  refine sr_rdg rfl rfl rfl (rd_loads agg_api_Node (ev_t rfl) rfl (fun _ => B2.row)) ?_
  refine sr_pureg rfl rfl rfl (fun _ => (rc_call go_syntax_form ev_f (args_cons (ev_u rfl id) (args_nil)) rfl)) (fun hc => form_ok t _ _ D _ (hk0.grow g) (by omega) (fun i => kidAt_len hcn i)) (fun w16 g16 => ?_)
  have g := g.trans (g16)
  replace B2 := B2.grow (g16)
  refine sr_pug rfl rfl rfl (fun _ => rd_not (ev_u rfl id)) ?_
  refine sr_pu rfl (fun _ => rd_pick_or (ev_t rfl) (ev_u rfl id)) ?_
  refine sr_sub [(1, _, _), (2, _, _), (4, _, _), (18, _, _)] (sub_cons rfl (sub_cons rfl (sub_cons rfl (sub_cons rfl (sub_nil _))))) ?_
  refine sr_nil (hK3 _ _ ?_)
  refine sc_cond (ev_t rfl) (fun h1 => ?_) (fun h1 => ?_)
  · have hN : permB d t = false := by
      rw [Bool.or_eq_true, Bool.or_eq_true, decide_eq_true_eq, Bool.not_eq_true', Bool.not_eq_true'] at h1
      by_cases h0 : d = 0
      · rw [h0]; exact permB_zero t
      · rw [permB_eq (by omega)]
        rcases h1 with (h1 | h1) | h1
        · omega
        · rw [h1]; rfl
        · rw [h1, Bool.and_false]; rfl
    refine sc_seq fun K4 hK4 => ?_
    refine sc_text [3] ?_
    refine sr_pu rfl (fun _ => rd_assign ev_c) ?_
    refine sr_sub [(1, _, _), (2, _, _), (4, _, _)] (sub_cons rfl (sub_cons rfl (sub_cons rfl (sub_nil _)))) ?_
    refine sr_nil (hK4 _ _ ?_)
    refine sc_ret (t_ret1 rfl rfl ?_)
    rw [hN]; exact ⟨rfl, g⟩
  have hpos : 0 < d := by
    rcases Nat.eq_zero_or_pos d with h0 | h0
    · rw [h0] at h1; exact absurd h1 (by simp)
    · exact h0
  have hloc : (textB' t && formB t) = true := by
    rw [Bool.or_eq_false_iff, Bool.or_eq_false_iff, Bool.not_eq_false', Bool.not_eq_false'] at h1
    rw [h1.1.2, h1.2]; rfl
  have hN := permB_eq hpos t
  rw [hloc, Bool.true_and] at hN
  refine sc_skip (hK2 _ _ ?_)
  refine sc_sub [(1, _, _), (2, _, _), (4, _, _)] (sub_cons rfl (sub_cons rfl (sub_cons rfl (sub_nil _)))) ?_
  refine sc_seq fun K5 hK5 => ?_
  refine sc_seq fun K6 hK6 => ?_
  refine sc_text [3, 0, 3, 3] ?_
  refine sr_pu rfl (fun _ => rd_field fo_api_Node_4 (ev_t rfl)) ?_
  refine sr_rd rfl (rd_load one_sl_api_Node (ev_t rfl) (fun _ => B2.at_ rfl)) ?_
  refine sr_pu rfl (fun _ => rd_len el_sl_api_Node (ev_t rfl)) ?_
  refine sr_pu rfl (fun _ => rd_move ev_c) ?_
  refine sr_sub [(1, _, _), (4, _, _), (20, _, _), (21, _, _), (22, _, _)] (sub_cons rfl (sub_cons rfl (sub_cons rfl (sub_cons rfl (sub_cons rfl (sub_nil _)))))) ?_
  refine sr_nil (hK6 _ _ ?_)
  refine sc_block ?_
  refine sc_loop2 (fun (i : Nat) u1 => (i ≤ t.kids.length ∧ ∀ j, (h : j < t.kids.length) → j < i → permB (d - 1) t.kids[j] = true) ∧ G w16 u1) [(1, True, _), (20, True, _), (21, True, _)] (fun (i : Nat) => [(22, True, .int .i64 i)]) (fun (i : Nat) => t.kids.length - i) (0) ⟨⟨Nat.zero_le _, fun j _ hj => absurd hj (Nat.not_lt_zero j)⟩, G.refl _⟩ (sub_cons rfl (sub_cons rfl (sub_cons rfl (sub_cons rfl (sub_nil _))))) ?_
  rintro i u1 ⟨hI1, gl1⟩
  have g := g.trans gl1
  replace B2 := B2.grow (gl1)
  refine sc_seq fun K7 hK7 => ?_
  refine sc_text [3] ?_
  refine sr_pu rfl (fun _ => rd_lt (ev_t rfl) (ev_t rfl)) ?_
  refine sr_nil (hK7 _ _ ?_)
  refine sc_sub [(1, _, _), (20, _, _), (21, _, _), (22, _, _), (23, _, _)] (sub_cons rfl (sub_cons rfl (sub_cons rfl (sub_cons rfl (sub_cons rfl (sub_nil _)))))) ?_
  refine sc_seq fun K8 hK8 => ?_
  refine sc_cond (ev_t rfl) (fun h2 => ?_) (fun h2 => ?_)
  · replace h2 : i < t.kids.length := by simp only [decide_eq_true_eq] at h2; omega
    obtain ⟨b, o, rfl, hD, xs, hR, hX⟩ := hks (by omega)
    obtain ⟨p', c', hcell, hkid⟩ := kd_at hR hX h2
    have hck := count_kid h2
    refine sc_skip (hK8 _ _ ?_)
    refine sc_sub [(1, _, _), (20, _, _), (21, _, _), (22, _, _)] (sub_cons rfl (sub_cons rfl (sub_cons rfl (sub_cons rfl (sub_nil _))))) ?_
    refine sc_seq fun K9 hK9 => ?_
    refine sc_block ?_
    refine sc_seq fun K10 hK10 => ?_
    refine sc_text [3, 0, 1, 2] ?_
    refine sr_pu rfl (fun _ => rd_idx el_sl_api_Node (ev_t rfl) (ev_t rfl) (fun _ => by omega)) ?_
    refine sr_rd rfl (rd_loads agg_api_Node (ev_t rfl) rfl (fun _ => hcell.grow g)) ?_
    refine sr_alloc rfl ze_api_Node rfl ?_
    intro b6 w6 N6
    have x6_2 := N6.ne B2
    have l6 := N6.ge g
    try have l6_gl1 := N6.ge gl1
    have g := g.trans (N6.g)
    try have gl1 := gl1.trans (N6.g)
    replace B2 := B2.grow (N6.g)
    have B6 := N6.blk
    refine sr_store_all rfl sz_api_Node (ev_t rfl) (ev_t rfl) rfl rfl B6 rfl rfl ?_
    intro wS1 hgS1 hzS1
    clear B6
    intro B6
    replace B2 := B2.keep hgS1 (by intro h; injection h with h; first | exact x6_2 h.symm | exact x2_6 h | omega)
    have g := g_only g hgS1 (by intro k hk; injection hk with hk; omega)
    first | replace gl1 := g_only gl1 hgS1 (by intro k hk; injection hk with hk; omega) | clear gl1 | skip
    refine sr_sub [(1, _, _), (6, _, _), (20, _, _), (21, _, _), (22, _, _)] (sub_cons rfl (sub_cons rfl (sub_cons rfl (sub_cons rfl (sub_cons rfl (sub_nil _)))))) ?_
    refine sr_nil (hK10 _ _ ?_)
    refine sc_seq fun K11 hK11 => ?_
    refine sc_text [0, 3, 3, 1, 3] ?_
    refine sr_rd rfl (rd_loads agg_api_Node (ev_t rfl) rfl (fun _ => B6.row)) ?_
    refine sr_pu rfl (fun _ => rd_move (ev_t rfl)) ?_
    refine sr_pu rfl (fun _ => rd_subr (r := ((d - 1 : Nat) : Int)) (ev_t rfl) ev_c (fun hc => (by rw [i64_id ⟨by omega, by omega⟩]; omega))) ?_
    refine sr_pure rfl (rc_call go_syntax_permitted ev_f (args_cons (ev_t rfl) (args_cons (ev_t rfl) (args_nil))) rfl) (ih _ (List.getElem_mem h2) _ _ (d - 1) _ (hL.grow g) (by have := g.size; omega) (hkid.grow g) (by omega) (by omega)) (fun w29 g29 => ?_)
    have g := g.trans (g29)
    try have gl1 := gl1.trans (g29)
    replace B2 := B2.grow (g29)
    replace B6 := B6.grow (g29)
    refine sr_pu rfl (fun _ => rd_not (ev_t rfl)) ?_
    refine sr_sub [(1, _, _), (20, _, _), (21, _, _), (22, _, _), (30, _, _)] (sub_cons rfl (sub_cons rfl (sub_cons rfl (sub_cons rfl (sub_cons rfl (sub_nil _)))))) ?_
    refine sr_nil (hK11 _ _ ?_)
    refine sc_cond (ev_t rfl) (fun h3 => ?_) (fun h3 => ?_)
    · (try simp only [bsimp] at h3)
      refine sc_seq fun K12 hK12 => ?_
      refine sc_text [3] ?_
      refine sr_pu rfl (fun _ => rd_assign ev_c) ?_
      refine sr_sub [(1, _, _), (4, _, _), (20, _, _), (21, _, _), (22, _, _)] (sub_cons rfl (sub_cons rfl (sub_cons rfl (sub_cons rfl (sub_cons rfl (sub_nil _)))))) ?_
      refine sr_nil (hK12 _ _ ?_)
      refine sc_ret (t_ret1 rfl rfl ?_)
      refine ⟨congrArg Value.bool ?_, g⟩
      rw [eq_comm, hN, List.all_eq_false]
      exact ⟨_, List.getElem_mem h2, by simpa using h3⟩
    (try simp only [bsimp] at h3)
    refine sc_skip (hK9 _ _ ?_)
    refine sc_sub [(1, _, _), (20, _, _), (21, _, _), (22, _, _)] (sub_cons rfl (sub_cons rfl (sub_cons rfl (sub_cons rfl (sub_nil _))))) ?_
    refine sc_text [3, 3] ?_
    refine sr_pu rfl (fun _ => rd_add (ev_t rfl) ev_c (fun _ => by omega)) ?_
    refine sr_pu rfl (fun _ => rd_move (ev_t rfl)) ?_
    refine sr_sub [(22, _, _), (1, _, _), (20, _, _), (21, _, _)] (sub_cons rfl (sub_cons rfl (sub_cons rfl (sub_cons rfl (sub_nil _))))) ?_
    refine sr_nil (fun a ha => ?_)
    refine ⟨i + 1, ha, ⟨⟨h2, fun j h hj => ?_⟩, gl1⟩, by omega⟩
    by_cases e : j = i
    · subst e; simpa using h3
    · exact hI1.2 j h (by omega)
  (try simp only [bsimp] at h2)
  refine sc_exit rfl (hK5 _ _ ?_)
  refine sc_sub [] (sub_nil _) ?_
  refine sc_seq fun K13 hK13 => ?_
  refine sc_text [3] ?_
  refine sr_pu rfl (fun _ => rd_assign ev_c) ?_
  refine sr_nil (hK13 _ _ ?_)
  refine sc_ret (t_ret1 rfl rfl ?_)
  refine ⟨congrArg Value.bool ?_, g⟩
  rw [eq_comm, hN, List.all_eq_true]
  intro x hx
  obtain ⟨j, hj, rfl⟩ := List.getElem_of_mem hx
  exact hI1.2 j hj (by simp only [decide_eq_false_iff_not] at h2; omega)
def validB (t : Nd) : Bool := decide (t.kind = 1) && permB 50 t
theorem svalid_ok (t : Nd) (v : Value) (D : Nat → Prop) (w : World) (hL : Laid w) (hb3 : 4 ≤ w.heap.size) (hk : Kd w D t.kids v) (hcn : count t ≤ 1000000) : Ret PP fn_syntax_Valid #[ndV t v] w fun r w' => r = .bool (validB t) ∧ G w w' := by
  have g := G.refl w
  refine ret_of_sc (m := 10) func_syntax_Valid rfl rfl [(0, True, _)] (sub_cons rfl (sub_nil _)) ?_
  refine sc_seq fun K1 hK1 => ?_
  refine sc_text [1, 3] ?_
  refine sr_box rfl (ev_t rfl) rfl ?_
  intro b1 w1 N1
  have l1 := N1.ge g
  have g := g.trans (N1.g)
  have B1 := N1.blk
  refine sr_pu rfl (fun _ => rd_assign ev_c) ?_
  refine sr_sub [(1, _, _), (2, _, _)] (sub_cons rfl (sub_cons rfl (sub_nil _))) ?_
  refine sr_nil (hK1 _ _ ?_)
  refine sc_seq fun K2 hK2 => ?_
  refine sc_text [3, 0, 3, 3, 0, 1, 3, 3] ?_
  refine sr_pu rfl (fun _ => rd_field fo_api_Node_0 (ev_t rfl)) ?_
  refine sr_rd rfl (rd_load one_int (ev_t rfl) (fun _ => B1.at_ rfl)) ?_
  refine sr_pu rfl (fun _ => rd_eq (ev_t rfl) ev_c) ?_
  refine sr_pu rfl (fun _ => rd_move (ev_t rfl)) ?_
  refine sr_rdg rfl rfl rfl (rd_loads agg_api_Node (ev_t rfl) rfl (fun _ => B1.row)) ?_
  refine sr_pureg rfl rfl rfl (fun _ => (rc_call go_syntax_permitted ev_f (args_cons (ev_u rfl id) (args_cons ev_c (args_nil))) rfl)) (fun hc => permitted_ok t _ D 50 _ (hL.grow g) (by have := g.size; omega) (hk.grow g) hcn (by decide)) (fun w8 g8 => ?_)
  have g := g.trans (g8)
  replace B1 := B1.grow (g8)
  refine sr_pu rfl (fun _ => rd_pick_and (ev_t rfl) (ev_u rfl id)) ?_
  refine sr_pu rfl (fun _ => rd_assign (ev_t rfl)) ?_
  refine sr_sub [(2, _, _)] (sub_cons rfl (sub_nil _)) ?_
  refine sr_nil (hK2 _ _ ?_)
  refine sc_ret (t_ret1 rfl rfl ?_)
  exact ⟨rfl, g⟩
end Go.Rk
