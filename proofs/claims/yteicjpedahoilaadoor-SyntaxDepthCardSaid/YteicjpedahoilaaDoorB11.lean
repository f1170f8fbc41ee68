/- Merged texts of one road: Awk, Awl, Syl, Dpt. Conditions: each text's own. -/
import Derived.Test.YteicjpedahoilaaDoorB06
import Derived.Test.YteicjpedahoilaaDoorB07
import Derived.Test.YteicjpedahoilaaDoorB10
set_option linter.unusedSimpArgs false
set_option linter.unusedVariables false
namespace Go.Rk
open Go Go.RowKit
set_option linter.unusedVariables false
def ndT (k : Int) (s : List UInt8) (ks : List Nd) : Nd := .mk k s 0 0 ks ty0 0 0
def sumN : Nd := ndT 32 [43] [ndT 27 [120] [], .mk 24 [] 1 0 [] ty0 0 0]
def lessN : Nd := ndT 32 [60] [ndT 27 [97] [], sumN]
def bodyN : Nd := ndT 10 [] [ndT 20 [] [lessN]]
def parN : Nd := ndT 5 [] [ndT 3 [97] [ndT 7 [105, 110, 116] []]]
def fncN (b : Nd) : Nd := ndT 4 [102] [parN, ndT 7 [98, 111, 111, 108] [], b]
def varN : Nd := ndT 6 [120] [ndT 7 [105, 110, 116] [], ndT 9 [] []]
def smpB (b : Nd) : Nd := ndT 1 [] [varN, fncN b]
def smpN : Nd := smpB bodyN
theorem lname03_ok (s : List UInt8) (w : World) : Ret PP fn_l03_name #[Str s] w fun r w' => r = ndV (ndT 27 s []) (.slice none 0 0) ∧ G w w' := by
  have g := G.refl w
  refine ret_of_sc (m := 5) func_l03_name rfl rfl [(0, True, _)] (sub_cons rfl (sub_nil _)) ?_
  refine sc_seq fun K1 hK1 => ?_
  refine sc_text [1] ?_
  refine sr_alloc rfl ze_api_Node rfl ?_
  intro b2 w2 N2
  have l2 := N2.ge g
  have g := g.trans (N2.g)
  have B2 := N2.blk
  refine sr_nil (hK1 _ _ ?_)
  refine sc_seq fun K2 hK2 => ?_
  refine sc_text [3, 3, 2] ?_
  refine sr_pu rfl (fun _ => rd_move (ev_t rfl)) ?_
  refine sr_pu rfl (fun _ => rd_build [_, _, _, _, _, _, _, _, _] ze_api_Node rfl pl_api_Node (parts_cons ev_c (parts_cons (ev_t rfl) (parts_nil))) rfl) ?_
  refine sr_store_all rfl sz_api_Node (ev_t rfl) (ev_t rfl) rfl rfl B2 rfl rfl ?_
  intro wS1 hgS1 hzS1
  clear B2
  intro B2
  have g := g_only g hgS1 (by intro k hk; injection hk with hk; omega)
  refine sr_sub [(2, _, _)] (sub_cons rfl (sub_nil _)) ?_
  refine sr_nil (hK2 _ _ ?_)
  refine sc_ret (t_retv1 rfl (evr_c rfl agg_api_Node rfl (by first | exact B2.row) (evr_nil)) ?_)
  exact ⟨rfl, g⟩
theorem ltyped03_ok (s : List UInt8) (w : World) : Ret PP fn_l03_typed #[Str s] w fun r w' => r = ndV (ndT 7 s []) (.slice none 0 0) ∧ G w w' := by
  have g := G.refl w
  refine ret_of_sc (m := 5) func_l03_typed rfl rfl [(0, True, _)] (sub_cons rfl (sub_nil _)) ?_
  refine sc_seq fun K1 hK1 => ?_
  refine sc_text [1] ?_
  refine sr_alloc rfl ze_api_Node rfl ?_
  intro b2 w2 N2
  have l2 := N2.ge g
  have g := g.trans (N2.g)
  have B2 := N2.blk
  refine sr_nil (hK1 _ _ ?_)
  refine sc_seq fun K2 hK2 => ?_
  refine sc_text [3, 3, 2] ?_
  refine sr_pu rfl (fun _ => rd_move (ev_t rfl)) ?_
  refine sr_pu rfl (fun _ => rd_build [_, _, _, _, _, _, _, _, _] ze_api_Node rfl pl_api_Node (parts_cons ev_c (parts_cons (ev_t rfl) (parts_nil))) rfl) ?_
  refine sr_store_all rfl sz_api_Node (ev_t rfl) (ev_t rfl) rfl rfl B2 rfl rfl ?_
  intro wS1 hgS1 hzS1
  clear B2
  intro B2
  have g := g_only g hgS1 (by intro k hk; injection hk with hk; omega)
  refine sr_sub [(2, _, _)] (sub_cons rfl (sub_nil _)) ?_
  refine sr_nil (hK2 _ _ ?_)
  refine sc_ret (t_retv1 rfl (evr_c rfl agg_api_Node rfl (by first | exact B2.row) (evr_nil)) ?_)
  exact ⟨rfl, g⟩
section
variable {P : Program} {n : Nat} {N T : Act → World → Prop} {X : List (Nat × (Act → World → Prop))} {σ : List Ent} {w : World}
/-- Two parts, and what holds between them. -/
theorem sc_mid {x y : Code} {α : Type} (τ : α → List Ent) (R : α → World → Prop) (h1 : SC P n x (fun a w => ∃ z, Kn n (τ z) a ∧ R z w) X T σ w) (h2 : ∀ z u, R z u → SC P n y N X T (τ z) u) : SC P n (.seq x y) N X T σ w :=
  sc_seq fun K hK a ha => Code.wp_mono (fun e a w q => by
    cases e with
    | normal =>
      obtain ⟨z, h, r⟩ := q
      exact hK _ _ (h2 z w r) a h
    | _ => exact q) (h1 a ha)
end
/-- From n on, but for b. -/
@[reducible] def GZ (n b : Nat) : Nat → Prop := fun k => n ≤ k ∧ k ≠ b
set_option maxHeartbeats 1000000 in
theorem sample_ok (w : World) : Ret PP fn_l03_sample #[] w fun r w' => RetD (GE w.heap.size) smpN r w' ∧ G w w' := by
  have g := G.refl w
  refine ret_of_sc (m := 38) func_l03_sample rfl rfl [] (sub_nil _) ?_
  refine sc_seq fun K1 hK1 => ?_
  refine sc_text [1] ?_
  refine sr_alloc rfl ze_api_Node rfl ?_
  intro b0 w0 N0
  have l0 := N0.ge g
  have g := g.trans (N0.g)
  try have k2 := k2.grow (N0.g)
  try have k5 := k5.grow (N0.g)
  have B0 := N0.blk
  refine sr_nil (hK1 _ _ ?_)
  refine sc_seq fun K2 hK2 => ?_
  refine sc_text [1, 3, 1, 3, 1, 2] ?_
  refine sr_call rfl (rc_call go_l03_name ev_f (args_cons ev_c (args_nil)) rfl) (lname03_ok _ _) ?_
  rintro v7 w7 ⟨rfl, g7⟩
  refine ⟨fun _ => g7, ?_⟩
  have g := g.trans (g7)
  replace B0 := B0.grow (g7)
  try have k2 := k2.grow (g7)
  try have k5 := k5.grow (g7)
  refine sr_pu rfl (fun _ => rd_build [_, _, _, _, _, _, _, _, _] ze_api_Node rfl pl_api_Node (parts_cons ev_c (parts_cons ev_c (parts_nil))) rfl) ?_
  refine sr_buildSlice [_, _, _, _, _, _, _, _, _, _, _, _, _, _, _, _, _, _] rfl el_sl_api_Node ze_api_Node (parts_cons (ev_t rfl) (parts_cons (ev_t rfl) (parts_nil))) rfl rfl ?_
  intro b9 w9 N9
  have x9_0 := N9.ne B0
  have l9 := N9.ge g
  have g := g.trans (N9.g)
  replace B0 := B0.grow (N9.g)
  try have k2 := k2.grow (N9.g)
  try have k5 := k5.grow (N9.g)
  have B9 := N9.blk
  refine sr_pu rfl (fun _ => rd_build [_, _, _, _, _, _, _, _, _] ze_api_Node rfl pl_api_Node (parts_cons ev_c (parts_cons ev_c (parts_cons (ev_t rfl) (parts_nil)))) rfl) ?_
  refine sr_alloc rfl ze_api_Node rfl ?_
  intro b1 w1 N1
  have x1_0 := N1.ne B0
  have x1_9 := N1.ne B9
  have l1 := N1.ge g
  have g := g.trans (N1.g)
  replace B0 := B0.grow (N1.g)
  replace B9 := B9.grow (N1.g)
  try have k2 := k2.grow (N1.g)
  try have k5 := k5.grow (N1.g)
  have B1 := N1.blk
  refine sr_store_all rfl sz_api_Node (ev_t rfl) (ev_t rfl) rfl rfl B1 rfl rfl ?_
  intro wS1 hgS1 hzS1
  clear B1
  intro B1
  replace B0 := B0.keep hgS1 (by intro h; injection h with h; first | exact x1_0 h.symm | exact x0_1 h | omega)
  replace B9 := B9.keep hgS1 (by intro h; injection h with h; first | exact x1_9 h.symm | exact x9_1 h | omega)
  have g := g_only g hgS1 (by intro k hk; injection hk with hk; omega)
  refine sr_sub [(0, _, _), (1, _, _)] (sub_cons rfl (sub_cons rfl (sub_nil _))) ?_
  refine sr_nil (hK2 _ _ ?_)
  refine sc_mid (fun (b2 : Nat) => [(0, True, .pointer (some ⟨b0, 0, none⟩)), (2, True, .pointer (some ⟨b2, 0, none⟩))]) (fun (b2 : Nat) u => G w u ∧ b2 ≠ b0 ∧ Blk u b0 ty_api_Node (ndCells nd0 (.slice none 0 0)) ∧ ∃ p c, Blk u b2 ty_api_Node (ndCells lessN (.slice p lessN.kids.length c)) ∧ Kd u (GZ w.heap.size b0) lessN.kids (.slice p lessN.kids.length c)) ?_ ?_
  · refine sc_drawT none [1, 0, 1, 3, 1, 2] [0, 0, 3, 7, 0, 31] mix (by kernel_rfl) [0, 1, 2, 3, 4, 5] rfl ?_
    have g := g.trans (G.drew _)
    replace B0 := B0.grow (G.drew _)
    replace B9 := B9.grow (G.drew _)
    replace B1 := B1.grow (G.drew _)
    try have k2 := k2.grow (G.drew _)
    try have k5 := k5.grow (G.drew _)
    refine st_rd (L' := [0, 2, 3, 4, 5]) 1 rfl rfl rfl (fun w1 hx => rd_loads agg_api_Node (ev_t rfl) rfl (fun _ => (B1.keep hx (by intro h; first | (injection h with h; omega) | cases h)).row)) ?_
    refine st_eff2 0 4 rfl rfl ?_ ?_
    · refine ste_of_sr (L' := [2, 3, 4, 5]) [1, 0, 1, 3, 1, 2] rfl rfl rfl ?_
      refine sr_call rfl (rc_call go_l03_name ev_f (args_cons ev_c (args_nil)) rfl) (lname03_ok _ _) ?_
      rintro v11 w11 ⟨rfl, g11⟩
      refine ⟨fun _ => g11, ?_⟩
      have g := g.trans (g11)
      replace B0 := B0.grow (g11)
      replace B9 := B9.grow (g11)
      replace B1 := B1.grow (g11)
      try have k2 := k2.grow (g11)
      try have k5 := k5.grow (g11)
      refine sr_nilT ((g11).only _) ?_
      refine st_eff2 2 4 rfl rfl ?_ ?_
      · refine ste_of_sr (L' := [3, 4, 5]) [1, 0, 1, 3, 1, 2] rfl rfl rfl ?_
        refine sr_buildSlice [_, _, _, _, _, _, _, _, _, _, _, _, _, _, _, _, _, _] rfl el_sl_api_Node ze_api_Node (parts_cons (ev_t rfl) (parts_cons (ev_t rfl) (parts_nil))) rfl rfl ?_
        intro b13 w13 N13
        have x13_0 := N13.ne B0
        have x13_9 := N13.ne B9
        have x13_1 := N13.ne B1
        have l13 := N13.ge g
        have g := g.trans (N13.g)
        replace B0 := B0.grow (N13.g)
        replace B9 := B9.grow (N13.g)
        replace B1 := B1.grow (N13.g)
        try have k2 := k2.grow (N13.g)
        try have k5 := k5.grow (N13.g)
        have B13 := N13.blk
        refine sr_nilT ((N13.g).only _) ?_
        refine st_pu (L' := [4, 5]) 3 rfl rfl rfl (fun _ => rd_build [_, _, _, _, _, _, _, _, _] ze_api_Node rfl pl_api_Node (parts_cons ev_c (parts_cons ev_c (parts_cons (ev_t rfl) (parts_nil)))) rfl) ?_
        refine st_eff1 4 rfl rfl ?_
        refine ste_of_sr (L' := [5]) [1, 0, 1, 3, 1, 2] rfl rfl rfl ?_
        refine sr_alloc rfl ze_api_Node rfl ?_
        intro b2 w2 N2
        have x2_0 := N2.ne B0
        have x2_9 := N2.ne B9
        have x2_1 := N2.ne B1
        have x2_13 := N2.ne B13
        have l2 := N2.ge g
        have g := g.trans (N2.g)
        replace B0 := B0.grow (N2.g)
        replace B9 := B9.grow (N2.g)
        replace B1 := B1.grow (N2.g)
        replace B13 := B13.grow (N2.g)
        try have k2 := k2.grow (N2.g)
        try have k5 := k5.grow (N2.g)
        have B2 := N2.blk
        refine sr_nilT ((N2.g).only _) ?_
        refine st_eff1 5 rfl rfl ?_
        refine ste2_of_sr (L' := []) [1, 0, 1, 3, 1, 2] rfl rfl rfl rfl ?_
        refine sr_store_all rfl sz_api_Node (ev_t rfl) (ev_t rfl) rfl rfl B2 rfl rfl ?_
        intro wS2 hgS2 hzS2
        clear B2
        intro B2
        replace B0 := B0.keep hgS2 (by intro h; injection h with h; first | exact x2_0 h.symm | exact x0_2 h | omega)
        replace B9 := B9.keep hgS2 (by intro h; injection h with h; first | exact x2_9 h.symm | exact x9_2 h | omega)
        replace B1 := B1.keep hgS2 (by intro h; injection h with h; first | exact x2_1 h.symm | exact x1_2 h | omega)
        replace B13 := B13.keep hgS2 (by intro h; injection h with h; first | exact x2_13 h.symm | exact x13_2 h | omega)
        have g := g_only g hgS2 (by intro k hk; injection hk with hk; omega)
        refine sr_nilT2 ?_
        refine st_sub [(0, _, _), (2, _, _)] (sub_cons rfl (sub_cons rfl (sub_nil _))) ?_
        refine st_nil (fun a ha => ?_)
        exact ⟨b2, ha, g, x2_0, B0, _, _, B2, kd_row (D := GZ w.heap.size b0) (ks := lessN.kids) ⟨l13, x13_0⟩ B13.row (krow_cons (t := ndT 27 [97] []) (kd_nil _ _) (krow_one (t := sumN) (kd_row (D := GZ w.heap.size b0) (ks := sumN.kids) ⟨l9, x9_0⟩ B9.row (krow_cons (t := ndT 27 [120] []) (kd_nil _ _) (krow_one (t := .mk 24 [] 1 0 [] ty0 0 0) (kd_nil _ _))) (Nat.le_refl _)))) (Nat.le_refl _)⟩
      · refine ste_of_sr (L' := [2, 3, 5]) [1, 0, 1, 3, 1, 2] rfl rfl rfl ?_
        refine sr_alloc rfl ze_api_Node rfl ?_
        intro b2 w2 N2
        have x2_0 := N2.ne B0
        have x2_9 := N2.ne B9
        have x2_1 := N2.ne B1
        have l2 := N2.ge g
        have g := g.trans (N2.g)
        replace B0 := B0.grow (N2.g)
        replace B9 := B9.grow (N2.g)
        replace B1 := B1.grow (N2.g)
        try have k2 := k2.grow (N2.g)
        try have k5 := k5.grow (N2.g)
        have B2 := N2.blk
        refine sr_nilT ((N2.g).only _) ?_
        refine st_eff1 2 rfl rfl ?_
        refine ste_of_sr (L' := [3, 5]) [1, 0, 1, 3, 1, 2] rfl rfl rfl ?_
        refine sr_buildSlice [_, _, _, _, _, _, _, _, _, _, _, _, _, _, _, _, _, _] rfl el_sl_api_Node ze_api_Node (parts_cons (ev_t rfl) (parts_cons (ev_t rfl) (parts_nil))) rfl rfl ?_
        intro b13 w13 N13
        have x13_0 := N13.ne B0
        have x13_9 := N13.ne B9
        have x13_1 := N13.ne B1
        have x13_2 := N13.ne B2
        have l13 := N13.ge g
        have g := g.trans (N13.g)
        replace B0 := B0.grow (N13.g)
        replace B9 := B9.grow (N13.g)
        replace B1 := B1.grow (N13.g)
        replace B2 := B2.grow (N13.g)
        try have k2 := k2.grow (N13.g)
        try have k5 := k5.grow (N13.g)
        have B13 := N13.blk
        refine sr_nilT ((N13.g).only _) ?_
        refine st_pu (L' := [5]) 3 rfl rfl rfl (fun _ => rd_build [_, _, _, _, _, _, _, _, _] ze_api_Node rfl pl_api_Node (parts_cons ev_c (parts_cons ev_c (parts_cons (ev_t rfl) (parts_nil)))) rfl) ?_
        refine st_eff1 5 rfl rfl ?_
        refine ste2_of_sr (L' := []) [1, 0, 1, 3, 1, 2] rfl rfl rfl rfl ?_
        refine sr_store_all rfl sz_api_Node (ev_t rfl) (ev_t rfl) rfl rfl B2 rfl rfl ?_
        intro wS2 hgS2 hzS2
        clear B2
        intro B2
        replace B0 := B0.keep hgS2 (by intro h; injection h with h; first | exact x2_0 h.symm | exact x0_2 h | omega)
        replace B9 := B9.keep hgS2 (by intro h; injection h with h; first | exact x2_9 h.symm | exact x9_2 h | omega)
        replace B1 := B1.keep hgS2 (by intro h; injection h with h; first | exact x2_1 h.symm | exact x1_2 h | omega)
        replace B13 := B13.keep hgS2 (by intro h; injection h with h; first | exact x2_13 h.symm | exact x13_2 h | omega)
        have g := g_only g hgS2 (by intro k hk; injection hk with hk; omega)
        refine sr_nilT2 ?_
        refine st_sub [(0, _, _), (2, _, _)] (sub_cons rfl (sub_cons rfl (sub_nil _))) ?_
        refine st_nil (fun a ha => ?_)
        exact ⟨b2, ha, g, x2_0, B0, _, _, B2, kd_row (D := GZ w.heap.size b0) (ks := lessN.kids) ⟨l13, x13_0⟩ B13.row (krow_cons (t := ndT 27 [97] []) (kd_nil _ _) (krow_one (t := sumN) (kd_row (D := GZ w.heap.size b0) (ks := sumN.kids) ⟨l9, x9_0⟩ B9.row (krow_cons (t := ndT 27 [120] []) (kd_nil _ _) (krow_one (t := .mk 24 [] 1 0 [] ty0 0 0) (kd_nil _ _))) (Nat.le_refl _)))) (Nat.le_refl _)⟩
    · refine ste_of_sr (L' := [0, 2, 3, 5]) [1, 0, 1, 3, 1, 2] rfl rfl rfl ?_
      refine sr_alloc rfl ze_api_Node rfl ?_
      intro b2 w2 N2
      have x2_0 := N2.ne B0
      have x2_9 := N2.ne B9
      have x2_1 := N2.ne B1
      have l2 := N2.ge g
      have g := g.trans (N2.g)
      replace B0 := B0.grow (N2.g)
      replace B9 := B9.grow (N2.g)
      replace B1 := B1.grow (N2.g)
      try have k2 := k2.grow (N2.g)
      try have k5 := k5.grow (N2.g)
      have B2 := N2.blk
      refine sr_nilT ((N2.g).only _) ?_
      refine st_eff1 0 rfl rfl ?_
      refine ste_of_sr (L' := [2, 3, 5]) [1, 0, 1, 3, 1, 2] rfl rfl rfl ?_
      refine sr_call rfl (rc_call go_l03_name ev_f (args_cons ev_c (args_nil)) rfl) (lname03_ok _ _) ?_
      rintro v11 w11 ⟨rfl, g11⟩
      refine ⟨fun _ => g11, ?_⟩
      have g := g.trans (g11)
      replace B0 := B0.grow (g11)
      replace B9 := B9.grow (g11)
      replace B1 := B1.grow (g11)
      replace B2 := B2.grow (g11)
      try have k2 := k2.grow (g11)
      try have k5 := k5.grow (g11)
      refine sr_nilT ((g11).only _) ?_
      refine st_eff1 2 rfl rfl ?_
      refine ste_of_sr (L' := [3, 5]) [1, 0, 1, 3, 1, 2] rfl rfl rfl ?_
      refine sr_buildSlice [_, _, _, _, _, _, _, _, _, _, _, _, _, _, _, _, _, _] rfl el_sl_api_Node ze_api_Node (parts_cons (ev_t rfl) (parts_cons (ev_t rfl) (parts_nil))) rfl rfl ?_
      intro b13 w13 N13
      have x13_0 := N13.ne B0
      have x13_9 := N13.ne B9
      have x13_1 := N13.ne B1
      have x13_2 := N13.ne B2
      have l13 := N13.ge g
      have g := g.trans (N13.g)
      replace B0 := B0.grow (N13.g)
      replace B9 := B9.grow (N13.g)
      replace B1 := B1.grow (N13.g)
      replace B2 := B2.grow (N13.g)
      try have k2 := k2.grow (N13.g)
      try have k5 := k5.grow (N13.g)
      have B13 := N13.blk
      refine sr_nilT ((N13.g).only _) ?_
      refine st_pu (L' := [5]) 3 rfl rfl rfl (fun _ => rd_build [_, _, _, _, _, _, _, _, _] ze_api_Node rfl pl_api_Node (parts_cons ev_c (parts_cons ev_c (parts_cons (ev_t rfl) (parts_nil)))) rfl) ?_
      refine st_eff1 5 rfl rfl ?_
      refine ste2_of_sr (L' := []) [1, 0, 1, 3, 1, 2] rfl rfl rfl rfl ?_
      refine sr_store_all rfl sz_api_Node (ev_t rfl) (ev_t rfl) rfl rfl B2 rfl rfl ?_
      intro wS2 hgS2 hzS2
      clear B2
      intro B2
      replace B0 := B0.keep hgS2 (by intro h; injection h with h; first | exact x2_0 h.symm | exact x0_2 h | omega)
      replace B9 := B9.keep hgS2 (by intro h; injection h with h; first | exact x2_9 h.symm | exact x9_2 h | omega)
      replace B1 := B1.keep hgS2 (by intro h; injection h with h; first | exact x2_1 h.symm | exact x1_2 h | omega)
      replace B13 := B13.keep hgS2 (by intro h; injection h with h; first | exact x2_13 h.symm | exact x13_2 h | omega)
      have g := g_only g hgS2 (by intro k hk; injection hk with hk; omega)
      refine sr_nilT2 ?_
      refine st_sub [(0, _, _), (2, _, _)] (sub_cons rfl (sub_cons rfl (sub_nil _))) ?_
      refine st_nil (fun a ha => ?_)
      exact ⟨b2, ha, g, x2_0, B0, _, _, B2, kd_row (D := GZ w.heap.size b0) (ks := lessN.kids) ⟨l13, x13_0⟩ B13.row (krow_cons (t := ndT 27 [97] []) (kd_nil _ _) (krow_one (t := sumN) (kd_row (D := GZ w.heap.size b0) (ks := sumN.kids) ⟨l9, x9_0⟩ B9.row (krow_cons (t := ndT 27 [120] []) (kd_nil _ _) (krow_one (t := .mk 24 [] 1 0 [] ty0 0 0) (kd_nil _ _))) (Nat.le_refl _)))) (Nat.le_refl _)⟩
  · rintro b2 wj2 ⟨g, x2_0, B0, p2, c2, B2, k2⟩
    have gj2 := G.refl wj2
    replace k2 := k2.lt
    refine sc_seq fun K4 hK4 => ?_
    refine sc_text [0, 1, 3, 1, 3, 1, 2] ?_
    refine sr_rd rfl (rd_loads agg_api_Node (ev_t rfl) rfl (fun _ => B2.row)) ?_
    refine sr_buildSlice [_, _, _, _, _, _, _, _, _] rfl el_sl_api_Node ze_api_Node (parts_cons (ev_t rfl) (parts_nil)) rfl rfl ?_
    intro b16 w16 N16
    have x16_0 := N16.ne B0
    have x16_2 := N16.ne B2
    have l16 := N16.ge g
    try have l16_gj2 := N16.ge gj2
    have g := g.trans (N16.g)
    try have gj2 := gj2.trans (N16.g)
    replace B0 := B0.grow (N16.g)
    replace B2 := B2.grow (N16.g)
    try have k2 := k2.grow (N16.g)
    try have k5 := k5.grow (N16.g)
    have B16 := N16.blk
    refine sr_pu rfl (fun _ => rd_build [_, _, _, _, _, _, _, _, _] ze_api_Node rfl pl_api_Node (parts_cons ev_c (parts_cons (ev_t rfl) (parts_nil))) rfl) ?_
    refine sr_buildSlice [_, _, _, _, _, _, _, _, _] rfl el_sl_api_Node ze_api_Node (parts_cons (ev_t rfl) (parts_nil)) rfl rfl ?_
    intro b18 w18 N18
    have x18_0 := N18.ne B0
    have x18_2 := N18.ne B2
    have x18_16 := N18.ne B16
    have l18 := N18.ge g
    try have l18_gj2 := N18.ge gj2
    have g := g.trans (N18.g)
    try have gj2 := gj2.trans (N18.g)
    replace B0 := B0.grow (N18.g)
    replace B2 := B2.grow (N18.g)
    replace B16 := B16.grow (N18.g)
    try have k2 := k2.grow (N18.g)
    try have k5 := k5.grow (N18.g)
    have B18 := N18.blk
    refine sr_pu rfl (fun _ => rd_build [_, _, _, _, _, _, _, _, _] ze_api_Node rfl pl_api_Node (parts_cons ev_c (parts_cons (ev_t rfl) (parts_nil))) rfl) ?_
    refine sr_alloc rfl ze_api_Node rfl ?_
    intro b3 w3 N3
    have x3_0 := N3.ne B0
    have x3_2 := N3.ne B2
    have x3_16 := N3.ne B16
    have x3_18 := N3.ne B18
    have l3 := N3.ge g
    try have l3_gj2 := N3.ge gj2
    have g := g.trans (N3.g)
    try have gj2 := gj2.trans (N3.g)
    replace B0 := B0.grow (N3.g)
    replace B2 := B2.grow (N3.g)
    replace B16 := B16.grow (N3.g)
    replace B18 := B18.grow (N3.g)
    try have k2 := k2.grow (N3.g)
    try have k5 := k5.grow (N3.g)
    have B3 := N3.blk
    refine sr_store_all rfl sz_api_Node (ev_t rfl) (ev_t rfl) rfl rfl B3 rfl rfl ?_
    intro wS3 hgS3 hzS3
    clear B3
    intro B3
    replace B0 := B0.keep hgS3 (by intro h; injection h with h; first | exact x3_0 h.symm | exact x0_3 h | omega)
    replace B2 := B2.keep hgS3 (by intro h; injection h with h; first | exact x3_2 h.symm | exact x2_3 h | omega)
    replace B16 := B16.keep hgS3 (by intro h; injection h with h; first | exact x3_16 h.symm | exact x16_3 h | omega)
    replace B18 := B18.keep hgS3 (by intro h; injection h with h; first | exact x3_18 h.symm | exact x18_3 h | omega)
    have g := g_only g hgS3 (by intro k hk; injection hk with hk; omega)
    first | replace gj2 := g_only gj2 hgS3 (by intro k hk; injection hk with hk; omega) | clear gj2 | skip
    have k2 := k2.keep hgS3 (fun b hb _ e => by injection e with e; have := l3_gj2; have := hb.2; omega)
    refine sr_sub [(0, _, _), (3, _, _)] (sub_cons rfl (sub_cons rfl (sub_nil _))) ?_
    refine sr_nil (hK4 _ _ ?_)
    refine sc_seq fun K5 hK5 => ?_
    refine sc_text [1, 1, 3, 1, 3, 1, 2] ?_
    refine sr_call rfl (rc_call go_l03_typed ev_f (args_cons ev_c (args_nil)) rfl) (ltyped03_ok _ _) ?_
    rintro v20 w20 ⟨rfl, g20⟩
    refine ⟨fun _ => g20, ?_⟩
    have g := g.trans (g20)
    try have gj2 := gj2.trans (g20)
    replace B0 := B0.grow (g20)
    replace B2 := B2.grow (g20)
    replace B16 := B16.grow (g20)
    replace B18 := B18.grow (g20)
    replace B3 := B3.grow (g20)
    try have k2 := k2.grow (g20)
    try have k5 := k5.grow (g20)
    refine sr_buildSlice [_, _, _, _, _, _, _, _, _] rfl el_sl_api_Node ze_api_Node (parts_cons (ev_t rfl) (parts_nil)) rfl rfl ?_
    intro b21 w21 N21
    have x21_0 := N21.ne B0
    have x21_2 := N21.ne B2
    have x21_16 := N21.ne B16
    have x21_18 := N21.ne B18
    have x21_3 := N21.ne B3
    have l21 := N21.ge g
    try have l21_gj2 := N21.ge gj2
    have g := g.trans (N21.g)
    try have gj2 := gj2.trans (N21.g)
    replace B0 := B0.grow (N21.g)
    replace B2 := B2.grow (N21.g)
    replace B16 := B16.grow (N21.g)
    replace B18 := B18.grow (N21.g)
    replace B3 := B3.grow (N21.g)
    try have k2 := k2.grow (N21.g)
    try have k5 := k5.grow (N21.g)
    have B21 := N21.blk
    refine sr_pu rfl (fun _ => rd_build [_, _, _, _, _, _, _, _, _] ze_api_Node rfl pl_api_Node (parts_cons ev_c (parts_cons ev_c (parts_cons (ev_t rfl) (parts_nil)))) rfl) ?_
    refine sr_buildSlice [_, _, _, _, _, _, _, _, _] rfl el_sl_api_Node ze_api_Node (parts_cons (ev_t rfl) (parts_nil)) rfl rfl ?_
    intro b23 w23 N23
    have x23_0 := N23.ne B0
    have x23_2 := N23.ne B2
    have x23_16 := N23.ne B16
    have x23_18 := N23.ne B18
    have x23_3 := N23.ne B3
    have x23_21 := N23.ne B21
    have l23 := N23.ge g
    try have l23_gj2 := N23.ge gj2
    have g := g.trans (N23.g)
    try have gj2 := gj2.trans (N23.g)
    replace B0 := B0.grow (N23.g)
    replace B2 := B2.grow (N23.g)
    replace B16 := B16.grow (N23.g)
    replace B18 := B18.grow (N23.g)
    replace B3 := B3.grow (N23.g)
    replace B21 := B21.grow (N23.g)
    try have k2 := k2.grow (N23.g)
    try have k5 := k5.grow (N23.g)
    have B23 := N23.blk
    refine sr_pu rfl (fun _ => rd_build [_, _, _, _, _, _, _, _, _] ze_api_Node rfl pl_api_Node (parts_cons ev_c (parts_cons (ev_t rfl) (parts_nil))) rfl) ?_
    refine sr_alloc rfl ze_api_Node rfl ?_
    intro b4 w4 N4
    have x4_0 := N4.ne B0
    have x4_2 := N4.ne B2
    have x4_16 := N4.ne B16
    have x4_18 := N4.ne B18
    have x4_3 := N4.ne B3
    have x4_21 := N4.ne B21
    have x4_23 := N4.ne B23
    have l4 := N4.ge g
    try have l4_gj2 := N4.ge gj2
    have g := g.trans (N4.g)
    try have gj2 := gj2.trans (N4.g)
    replace B0 := B0.grow (N4.g)
    replace B2 := B2.grow (N4.g)
    replace B16 := B16.grow (N4.g)
    replace B18 := B18.grow (N4.g)
    replace B3 := B3.grow (N4.g)
    replace B21 := B21.grow (N4.g)
    replace B23 := B23.grow (N4.g)
    try have k2 := k2.grow (N4.g)
    try have k5 := k5.grow (N4.g)
    have B4 := N4.blk
    refine sr_store_all rfl sz_api_Node (ev_t rfl) (ev_t rfl) rfl rfl B4 rfl rfl ?_
    intro wS4 hgS4 hzS4
    clear B4
    intro B4
    replace B0 := B0.keep hgS4 (by intro h; injection h with h; first | exact x4_0 h.symm | exact x0_4 h | omega)
    replace B2 := B2.keep hgS4 (by intro h; injection h with h; first | exact x4_2 h.symm | exact x2_4 h | omega)
    replace B16 := B16.keep hgS4 (by intro h; injection h with h; first | exact x4_16 h.symm | exact x16_4 h | omega)
    replace B18 := B18.keep hgS4 (by intro h; injection h with h; first | exact x4_18 h.symm | exact x18_4 h | omega)
    replace B3 := B3.keep hgS4 (by intro h; injection h with h; first | exact x4_3 h.symm | exact x3_4 h | omega)
    replace B21 := B21.keep hgS4 (by intro h; injection h with h; first | exact x4_21 h.symm | exact x21_4 h | omega)
    replace B23 := B23.keep hgS4 (by intro h; injection h with h; first | exact x4_23 h.symm | exact x23_4 h | omega)
    have g := g_only g hgS4 (by intro k hk; injection hk with hk; omega)
    first | replace gj2 := g_only gj2 hgS4 (by intro k hk; injection hk with hk; omega) | clear gj2 | skip
    have k2 := k2.keep hgS4 (fun b hb _ e => by injection e with e; have := l4_gj2; have := hb.2; omega)
    refine sr_sub [(0, _, _), (3, _, _), (4, _, _)] (sub_cons rfl (sub_cons rfl (sub_cons rfl (sub_nil _)))) ?_
    refine sr_nil (hK5 _ _ ?_)
    refine sc_mid (fun (b5 : Nat) => [(0, True, .pointer (some ⟨b0, 0, none⟩)), (5, True, .pointer (some ⟨b5, 0, none⟩))]) (fun (b5 : Nat) u => G w u ∧ b5 ≠ b0 ∧ Blk u b0 ty_api_Node (ndCells nd0 (.slice none 0 0)) ∧ ∃ p c, Blk u b5 ty_api_Node (ndCells (fncN bodyN) (.slice p (fncN bodyN).kids.length c)) ∧ Kd u (GZ w.heap.size b0) (fncN bodyN).kids (.slice p (fncN bodyN).kids.length c)) ?_ ?_
    · refine sc_drawT none [0, 1, 0, 1, 3, 1, 2] [0, 0, 0, 7, 15, 0, 63] mix (by kernel_rfl) [0, 1, 2, 3, 4, 5, 6] rfl ?_
      have g := g.trans (G.drew _)
      try have gj2 := gj2.trans (G.drew _)
      replace B0 := B0.grow (G.drew _)
      replace B2 := B2.grow (G.drew _)
      replace B16 := B16.grow (G.drew _)
      replace B18 := B18.grow (G.drew _)
      replace B3 := B3.grow (G.drew _)
      replace B21 := B21.grow (G.drew _)
      replace B23 := B23.grow (G.drew _)
      replace B4 := B4.grow (G.drew _)
      try have k2 := k2.grow (G.drew _)
      try have k5 := k5.grow (G.drew _)
      refine st_rd (L' := [1, 2, 3, 4, 5, 6]) 0 rfl rfl rfl (fun w1 hx => rd_loads agg_api_Node (ev_t rfl) rfl (fun _ => (B4.keep hx (by intro h; first | (injection h with h; omega) | cases h)).row)) ?_
      refine st_rd (L' := [1, 3, 4, 5, 6]) 2 rfl rfl rfl (fun w1 hx => rd_loads agg_api_Node (ev_t rfl) rfl (fun _ => (B3.keep hx (by intro h; first | (injection h with h; omega) | cases h)).row)) ?_
      refine st_eff2 1 5 rfl rfl ?_ ?_
      · refine ste_of_sr (L' := [3, 4, 5, 6]) [0, 1, 0, 1, 3, 1, 2] rfl rfl rfl ?_
        refine sr_call rfl (rc_call go_l03_typed ev_f (args_cons ev_c (args_nil)) rfl) (ltyped03_ok _ _) ?_
        rintro v26 w26 ⟨rfl, g26⟩
        refine ⟨fun _ => g26, ?_⟩
        have g := g.trans (g26)
        try have gj2 := gj2.trans (g26)
        replace B0 := B0.grow (g26)
        replace B2 := B2.grow (g26)
        replace B16 := B16.grow (g26)
        replace B18 := B18.grow (g26)
        replace B3 := B3.grow (g26)
        replace B21 := B21.grow (g26)
        replace B23 := B23.grow (g26)
        replace B4 := B4.grow (g26)
        try have k2 := k2.grow (g26)
        try have k5 := k5.grow (g26)
        refine sr_nilT ((g26).only _) ?_
        refine st_eff2 3 5 rfl rfl ?_ ?_
        · refine ste_of_sr (L' := [4, 5, 6]) [0, 1, 0, 1, 3, 1, 2] rfl rfl rfl ?_
          refine sr_buildSlice [_, _, _, _, _, _, _, _, _, _, _, _, _, _, _, _, _, _, _, _, _, _, _, _, _, _, _] rfl el_sl_api_Node ze_api_Node (parts_cons (ev_t rfl) (parts_cons (ev_t rfl) (parts_cons (ev_t rfl) (parts_nil)))) rfl rfl ?_
          intro b28 w28 N28
          have x28_0 := N28.ne B0
          have x28_2 := N28.ne B2
          have x28_16 := N28.ne B16
          have x28_18 := N28.ne B18
          have x28_3 := N28.ne B3
          have x28_21 := N28.ne B21
          have x28_23 := N28.ne B23
          have x28_4 := N28.ne B4
          have l28 := N28.ge g
          try have l28_gj2 := N28.ge gj2
          have g := g.trans (N28.g)
          try have gj2 := gj2.trans (N28.g)
          replace B0 := B0.grow (N28.g)
          replace B2 := B2.grow (N28.g)
          replace B16 := B16.grow (N28.g)
          replace B18 := B18.grow (N28.g)
          replace B3 := B3.grow (N28.g)
          replace B21 := B21.grow (N28.g)
          replace B23 := B23.grow (N28.g)
          replace B4 := B4.grow (N28.g)
          try have k2 := k2.grow (N28.g)
          try have k5 := k5.grow (N28.g)
          have B28 := N28.blk
          refine sr_nilT ((N28.g).only _) ?_
          refine st_pu (L' := [5, 6]) 4 rfl rfl rfl (fun _ => rd_build [_, _, _, _, _, _, _, _, _] ze_api_Node rfl pl_api_Node (parts_cons ev_c (parts_cons ev_c (parts_cons (ev_t rfl) (parts_nil)))) rfl) ?_
          refine st_eff1 5 rfl rfl ?_
          refine ste_of_sr (L' := [6]) [0, 1, 0, 1, 3, 1, 2] rfl rfl rfl ?_
          refine sr_alloc rfl ze_api_Node rfl ?_
          intro b5 w5 N5
          have x5_0 := N5.ne B0
          have x5_2 := N5.ne B2
          have x5_16 := N5.ne B16
          have x5_18 := N5.ne B18
          have x5_3 := N5.ne B3
          have x5_21 := N5.ne B21
          have x5_23 := N5.ne B23
          have x5_4 := N5.ne B4
          have x5_28 := N5.ne B28
          have l5 := N5.ge g
          try have l5_gj2 := N5.ge gj2
          have g := g.trans (N5.g)
          try have gj2 := gj2.trans (N5.g)
          replace B0 := B0.grow (N5.g)
          replace B2 := B2.grow (N5.g)
          replace B16 := B16.grow (N5.g)
          replace B18 := B18.grow (N5.g)
          replace B3 := B3.grow (N5.g)
          replace B21 := B21.grow (N5.g)
          replace B23 := B23.grow (N5.g)
          replace B4 := B4.grow (N5.g)
          replace B28 := B28.grow (N5.g)
          try have k2 := k2.grow (N5.g)
          try have k5 := k5.grow (N5.g)
          have B5 := N5.blk
          refine sr_nilT ((N5.g).only _) ?_
          refine st_eff1 6 rfl rfl ?_
          refine ste2_of_sr (L' := []) [0, 1, 0, 1, 3, 1, 2] rfl rfl rfl rfl ?_
          refine sr_store_all rfl sz_api_Node (ev_t rfl) (ev_t rfl) rfl rfl B5 rfl rfl ?_
          intro wS5 hgS5 hzS5
          clear B5
          intro B5
          replace B0 := B0.keep hgS5 (by intro h; injection h with h; first | exact x5_0 h.symm | exact x0_5 h | omega)
          replace B2 := B2.keep hgS5 (by intro h; injection h with h; first | exact x5_2 h.symm | exact x2_5 h | omega)
          replace B16 := B16.keep hgS5 (by intro h; injection h with h; first | exact x5_16 h.symm | exact x16_5 h | omega)
          replace B18 := B18.keep hgS5 (by intro h; injection h with h; first | exact x5_18 h.symm | exact x18_5 h | omega)
          replace B3 := B3.keep hgS5 (by intro h; injection h with h; first | exact x5_3 h.symm | exact x3_5 h | omega)
          replace B21 := B21.keep hgS5 (by intro h; injection h with h; first | exact x5_21 h.symm | exact x21_5 h | omega)
          replace B23 := B23.keep hgS5 (by intro h; injection h with h; first | exact x5_23 h.symm | exact x23_5 h | omega)
          replace B4 := B4.keep hgS5 (by intro h; injection h with h; first | exact x5_4 h.symm | exact x4_5 h | omega)
          replace B28 := B28.keep hgS5 (by intro h; injection h with h; first | exact x5_28 h.symm | exact x28_5 h | omega)
          have g := g_only g hgS5 (by intro k hk; injection hk with hk; omega)
          first | replace gj2 := g_only gj2 hgS5 (by intro k hk; injection hk with hk; omega) | clear gj2 | skip
          have k2 := k2.keep hgS5 (fun b hb _ e => by injection e with e; have := l5_gj2; have := hb.2; omega)
          refine sr_nilT2 ?_
          refine st_sub [(0, _, _), (5, _, _)] (sub_cons rfl (sub_cons rfl (sub_nil _))) ?_
          refine st_nil (fun a ha => ?_)
          exact ⟨b5, ha, g, x5_0, B0, _, _, B5, kd_row (D := GZ w.heap.size b0) (ks := (fncN bodyN).kids) ⟨l28, x28_0⟩ B28.row (krow_cons (t := parN) (kd_one (t := ndT 3 [97] [ndT 7 [105, 110, 116] []]) (D := GZ w.heap.size b0) ⟨l23, x23_0⟩ B23 (kd_one (t := ndT 7 [105, 110, 116] []) (D := GZ w.heap.size b0) ⟨l21, x21_0⟩ B21 (kd_nil _ _))) (krow_cons (t := ndT 7 [98, 111, 111, 108] []) (kd_nil _ _) (krow_one (t := bodyN) (kd_one (t := ndT 20 [] [lessN]) (D := GZ w.heap.size b0) ⟨l18, x18_0⟩ B18 (kd_one (t := lessN) (D := GZ w.heap.size b0) ⟨l16, x16_0⟩ B16 (k2.mono fun _ h _ => h.1)))))) (Nat.le_refl _)⟩
        · refine ste_of_sr (L' := [3, 4, 6]) [0, 1, 0, 1, 3, 1, 2] rfl rfl rfl ?_
          refine sr_alloc rfl ze_api_Node rfl ?_
          intro b5 w5 N5
          have x5_0 := N5.ne B0
          have x5_2 := N5.ne B2
          have x5_16 := N5.ne B16
          have x5_18 := N5.ne B18
          have x5_3 := N5.ne B3
          have x5_21 := N5.ne B21
          have x5_23 := N5.ne B23
          have x5_4 := N5.ne B4
          have l5 := N5.ge g
          try have l5_gj2 := N5.ge gj2
          have g := g.trans (N5.g)
          try have gj2 := gj2.trans (N5.g)
          replace B0 := B0.grow (N5.g)
          replace B2 := B2.grow (N5.g)
          replace B16 := B16.grow (N5.g)
          replace B18 := B18.grow (N5.g)
          replace B3 := B3.grow (N5.g)
          replace B21 := B21.grow (N5.g)
          replace B23 := B23.grow (N5.g)
          replace B4 := B4.grow (N5.g)
          try have k2 := k2.grow (N5.g)
          try have k5 := k5.grow (N5.g)
          have B5 := N5.blk
          refine sr_nilT ((N5.g).only _) ?_
          refine st_eff1 3 rfl rfl ?_
          refine ste_of_sr (L' := [4, 6]) [0, 1, 0, 1, 3, 1, 2] rfl rfl rfl ?_
          refine sr_buildSlice [_, _, _, _, _, _, _, _, _, _, _, _, _, _, _, _, _, _, _, _, _, _, _, _, _, _, _] rfl el_sl_api_Node ze_api_Node (parts_cons (ev_t rfl) (parts_cons (ev_t rfl) (parts_cons (ev_t rfl) (parts_nil)))) rfl rfl ?_
          intro b28 w28 N28
          have x28_0 := N28.ne B0
          have x28_2 := N28.ne B2
          have x28_16 := N28.ne B16
          have x28_18 := N28.ne B18
          have x28_3 := N28.ne B3
          have x28_21 := N28.ne B21
          have x28_23 := N28.ne B23
          have x28_4 := N28.ne B4
          have x28_5 := N28.ne B5
          have l28 := N28.ge g
          try have l28_gj2 := N28.ge gj2
          have g := g.trans (N28.g)
          try have gj2 := gj2.trans (N28.g)
          replace B0 := B0.grow (N28.g)
          replace B2 := B2.grow (N28.g)
          replace B16 := B16.grow (N28.g)
          replace B18 := B18.grow (N28.g)
          replace B3 := B3.grow (N28.g)
          replace B21 := B21.grow (N28.g)
          replace B23 := B23.grow (N28.g)
          replace B4 := B4.grow (N28.g)
          replace B5 := B5.grow (N28.g)
          try have k2 := k2.grow (N28.g)
          try have k5 := k5.grow (N28.g)
          have B28 := N28.blk
          refine sr_nilT ((N28.g).only _) ?_
          refine st_pu (L' := [6]) 4 rfl rfl rfl (fun _ => rd_build [_, _, _, _, _, _, _, _, _] ze_api_Node rfl pl_api_Node (parts_cons ev_c (parts_cons ev_c (parts_cons (ev_t rfl) (parts_nil)))) rfl) ?_
          refine st_eff1 6 rfl rfl ?_
          refine ste2_of_sr (L' := []) [0, 1, 0, 1, 3, 1, 2] rfl rfl rfl rfl ?_
          refine sr_store_all rfl sz_api_Node (ev_t rfl) (ev_t rfl) rfl rfl B5 rfl rfl ?_
          intro wS5 hgS5 hzS5
          clear B5
          intro B5
          replace B0 := B0.keep hgS5 (by intro h; injection h with h; first | exact x5_0 h.symm | exact x0_5 h | omega)
          replace B2 := B2.keep hgS5 (by intro h; injection h with h; first | exact x5_2 h.symm | exact x2_5 h | omega)
          replace B16 := B16.keep hgS5 (by intro h; injection h with h; first | exact x5_16 h.symm | exact x16_5 h | omega)
          replace B18 := B18.keep hgS5 (by intro h; injection h with h; first | exact x5_18 h.symm | exact x18_5 h | omega)
          replace B3 := B3.keep hgS5 (by intro h; injection h with h; first | exact x5_3 h.symm | exact x3_5 h | omega)
          replace B21 := B21.keep hgS5 (by intro h; injection h with h; first | exact x5_21 h.symm | exact x21_5 h | omega)
          replace B23 := B23.keep hgS5 (by intro h; injection h with h; first | exact x5_23 h.symm | exact x23_5 h | omega)
          replace B4 := B4.keep hgS5 (by intro h; injection h with h; first | exact x5_4 h.symm | exact x4_5 h | omega)
          replace B28 := B28.keep hgS5 (by intro h; injection h with h; first | exact x5_28 h.symm | exact x28_5 h | omega)
          have g := g_only g hgS5 (by intro k hk; injection hk with hk; omega)
          first | replace gj2 := g_only gj2 hgS5 (by intro k hk; injection hk with hk; omega) | clear gj2 | skip
          have k2 := k2.keep hgS5 (fun b hb _ e => by injection e with e; have := l5_gj2; have := hb.2; omega)
          refine sr_nilT2 ?_
          refine st_sub [(0, _, _), (5, _, _)] (sub_cons rfl (sub_cons rfl (sub_nil _))) ?_
          refine st_nil (fun a ha => ?_)
          exact ⟨b5, ha, g, x5_0, B0, _, _, B5, kd_row (D := GZ w.heap.size b0) (ks := (fncN bodyN).kids) ⟨l28, x28_0⟩ B28.row (krow_cons (t := parN) (kd_one (t := ndT 3 [97] [ndT 7 [105, 110, 116] []]) (D := GZ w.heap.size b0) ⟨l23, x23_0⟩ B23 (kd_one (t := ndT 7 [105, 110, 116] []) (D := GZ w.heap.size b0) ⟨l21, x21_0⟩ B21 (kd_nil _ _))) (krow_cons (t := ndT 7 [98, 111, 111, 108] []) (kd_nil _ _) (krow_one (t := bodyN) (kd_one (t := ndT 20 [] [lessN]) (D := GZ w.heap.size b0) ⟨l18, x18_0⟩ B18 (kd_one (t := lessN) (D := GZ w.heap.size b0) ⟨l16, x16_0⟩ B16 (k2.mono fun _ h _ => h.1)))))) (Nat.le_refl _)⟩
      · refine ste_of_sr (L' := [1, 3, 4, 6]) [0, 1, 0, 1, 3, 1, 2] rfl rfl rfl ?_
        refine sr_alloc rfl ze_api_Node rfl ?_
        intro b5 w5 N5
        have x5_0 := N5.ne B0
        have x5_2 := N5.ne B2
        have x5_16 := N5.ne B16
        have x5_18 := N5.ne B18
        have x5_3 := N5.ne B3
        have x5_21 := N5.ne B21
        have x5_23 := N5.ne B23
        have x5_4 := N5.ne B4
        have l5 := N5.ge g
        try have l5_gj2 := N5.ge gj2
        have g := g.trans (N5.g)
        try have gj2 := gj2.trans (N5.g)
        replace B0 := B0.grow (N5.g)
        replace B2 := B2.grow (N5.g)
        replace B16 := B16.grow (N5.g)
        replace B18 := B18.grow (N5.g)
        replace B3 := B3.grow (N5.g)
        replace B21 := B21.grow (N5.g)
        replace B23 := B23.grow (N5.g)
        replace B4 := B4.grow (N5.g)
        try have k2 := k2.grow (N5.g)
        try have k5 := k5.grow (N5.g)
        have B5 := N5.blk
        refine sr_nilT ((N5.g).only _) ?_
        refine st_eff1 1 rfl rfl ?_
        refine ste_of_sr (L' := [3, 4, 6]) [0, 1, 0, 1, 3, 1, 2] rfl rfl rfl ?_
        refine sr_call rfl (rc_call go_l03_typed ev_f (args_cons ev_c (args_nil)) rfl) (ltyped03_ok _ _) ?_
        rintro v26 w26 ⟨rfl, g26⟩
        refine ⟨fun _ => g26, ?_⟩
        have g := g.trans (g26)
        try have gj2 := gj2.trans (g26)
        replace B0 := B0.grow (g26)
        replace B2 := B2.grow (g26)
        replace B16 := B16.grow (g26)
        replace B18 := B18.grow (g26)
        replace B3 := B3.grow (g26)
        replace B21 := B21.grow (g26)
        replace B23 := B23.grow (g26)
        replace B4 := B4.grow (g26)
        replace B5 := B5.grow (g26)
        try have k2 := k2.grow (g26)
        try have k5 := k5.grow (g26)
        refine sr_nilT ((g26).only _) ?_
        refine st_eff1 3 rfl rfl ?_
        refine ste_of_sr (L' := [4, 6]) [0, 1, 0, 1, 3, 1, 2] rfl rfl rfl ?_
        refine sr_buildSlice [_, _, _, _, _, _, _, _, _, _, _, _, _, _, _, _, _, _, _, _, _, _, _, _, _, _, _] rfl el_sl_api_Node ze_api_Node (parts_cons (ev_t rfl) (parts_cons (ev_t rfl) (parts_cons (ev_t rfl) (parts_nil)))) rfl rfl ?_
        intro b28 w28 N28
        have x28_0 := N28.ne B0
        have x28_2 := N28.ne B2
        have x28_16 := N28.ne B16
        have x28_18 := N28.ne B18
        have x28_3 := N28.ne B3
        have x28_21 := N28.ne B21
        have x28_23 := N28.ne B23
        have x28_4 := N28.ne B4
        have x28_5 := N28.ne B5
        have l28 := N28.ge g
        try have l28_gj2 := N28.ge gj2
        have g := g.trans (N28.g)
        try have gj2 := gj2.trans (N28.g)
        replace B0 := B0.grow (N28.g)
        replace B2 := B2.grow (N28.g)
        replace B16 := B16.grow (N28.g)
        replace B18 := B18.grow (N28.g)
        replace B3 := B3.grow (N28.g)
        replace B21 := B21.grow (N28.g)
        replace B23 := B23.grow (N28.g)
        replace B4 := B4.grow (N28.g)
        replace B5 := B5.grow (N28.g)
        try have k2 := k2.grow (N28.g)
        try have k5 := k5.grow (N28.g)
        have B28 := N28.blk
        refine sr_nilT ((N28.g).only _) ?_
        refine st_pu (L' := [6]) 4 rfl rfl rfl (fun _ => rd_build [_, _, _, _, _, _, _, _, _] ze_api_Node rfl pl_api_Node (parts_cons ev_c (parts_cons ev_c (parts_cons (ev_t rfl) (parts_nil)))) rfl) ?_
        refine st_eff1 6 rfl rfl ?_
        refine ste2_of_sr (L' := []) [0, 1, 0, 1, 3, 1, 2] rfl rfl rfl rfl ?_
        refine sr_store_all rfl sz_api_Node (ev_t rfl) (ev_t rfl) rfl rfl B5 rfl rfl ?_
        intro wS5 hgS5 hzS5
        clear B5
        intro B5
        replace B0 := B0.keep hgS5 (by intro h; injection h with h; first | exact x5_0 h.symm | exact x0_5 h | omega)
        replace B2 := B2.keep hgS5 (by intro h; injection h with h; first | exact x5_2 h.symm | exact x2_5 h | omega)
        replace B16 := B16.keep hgS5 (by intro h; injection h with h; first | exact x5_16 h.symm | exact x16_5 h | omega)
        replace B18 := B18.keep hgS5 (by intro h; injection h with h; first | exact x5_18 h.symm | exact x18_5 h | omega)
        replace B3 := B3.keep hgS5 (by intro h; injection h with h; first | exact x5_3 h.symm | exact x3_5 h | omega)
        replace B21 := B21.keep hgS5 (by intro h; injection h with h; first | exact x5_21 h.symm | exact x21_5 h | omega)
        replace B23 := B23.keep hgS5 (by intro h; injection h with h; first | exact x5_23 h.symm | exact x23_5 h | omega)
        replace B4 := B4.keep hgS5 (by intro h; injection h with h; first | exact x5_4 h.symm | exact x4_5 h | omega)
        replace B28 := B28.keep hgS5 (by intro h; injection h with h; first | exact x5_28 h.symm | exact x28_5 h | omega)
        have g := g_only g hgS5 (by intro k hk; injection hk with hk; omega)
        first | replace gj2 := g_only gj2 hgS5 (by intro k hk; injection hk with hk; omega) | clear gj2 | skip
        have k2 := k2.keep hgS5 (fun b hb _ e => by injection e with e; have := l5_gj2; have := hb.2; omega)
        refine sr_nilT2 ?_
        refine st_sub [(0, _, _), (5, _, _)] (sub_cons rfl (sub_cons rfl (sub_nil _))) ?_
        refine st_nil (fun a ha => ?_)
        exact ⟨b5, ha, g, x5_0, B0, _, _, B5, kd_row (D := GZ w.heap.size b0) (ks := (fncN bodyN).kids) ⟨l28, x28_0⟩ B28.row (krow_cons (t := parN) (kd_one (t := ndT 3 [97] [ndT 7 [105, 110, 116] []]) (D := GZ w.heap.size b0) ⟨l23, x23_0⟩ B23 (kd_one (t := ndT 7 [105, 110, 116] []) (D := GZ w.heap.size b0) ⟨l21, x21_0⟩ B21 (kd_nil _ _))) (krow_cons (t := ndT 7 [98, 111, 111, 108] []) (kd_nil _ _) (krow_one (t := bodyN) (kd_one (t := ndT 20 [] [lessN]) (D := GZ w.heap.size b0) ⟨l18, x18_0⟩ B18 (kd_one (t := lessN) (D := GZ w.heap.size b0) ⟨l16, x16_0⟩ B16 (k2.mono fun _ h _ => h.1)))))) (Nat.le_refl _)⟩
    · clear k2
      rintro b5 wj5 ⟨g, x5_0, B0, p5, c5, B5, k5⟩
      have gj5 := G.refl wj5
      replace k5 := k5.lt
      refine sc_seq fun K7 hK7 => ?_
      refine sc_text [1, 3, 1, 3, 1, 2] ?_
      refine sr_call rfl (rc_call go_l03_typed ev_f (args_cons ev_c (args_nil)) rfl) (ltyped03_ok _ _) ?_
      rintro v30 w30 ⟨rfl, g30⟩
      refine ⟨fun _ => g30, ?_⟩
      have g := g.trans (g30)
      try have gj5 := gj5.trans (g30)
      replace B0 := B0.grow (g30)
      replace B5 := B5.grow (g30)
      try have k2 := k2.grow (g30)
      try have k5 := k5.grow (g30)
      refine sr_pu rfl (fun _ => rd_build [_, _, _, _, _, _, _, _, _] ze_api_Node rfl pl_api_Node (parts_cons ev_c (parts_nil)) rfl) ?_
      refine sr_buildSlice [_, _, _, _, _, _, _, _, _, _, _, _, _, _, _, _, _, _] rfl el_sl_api_Node ze_api_Node (parts_cons (ev_t rfl) (parts_cons (ev_t rfl) (parts_nil))) rfl rfl ?_
      intro b32 w32 N32
      have x32_0 := N32.ne B0
      have x32_5 := N32.ne B5
      have l32 := N32.ge g
      try have l32_gj5 := N32.ge gj5
      have g := g.trans (N32.g)
      try have gj5 := gj5.trans (N32.g)
      replace B0 := B0.grow (N32.g)
      replace B5 := B5.grow (N32.g)
      try have k2 := k2.grow (N32.g)
      try have k5 := k5.grow (N32.g)
      have B32 := N32.blk
      refine sr_pu rfl (fun _ => rd_build [_, _, _, _, _, _, _, _, _] ze_api_Node rfl pl_api_Node (parts_cons ev_c (parts_cons ev_c (parts_cons (ev_t rfl) (parts_nil)))) rfl) ?_
      refine sr_alloc rfl ze_api_Node rfl ?_
      intro b6 w6 N6
      have x6_0 := N6.ne B0
      have x6_5 := N6.ne B5
      have x6_32 := N6.ne B32
      have l6 := N6.ge g
      try have l6_gj5 := N6.ge gj5
      have g := g.trans (N6.g)
      try have gj5 := gj5.trans (N6.g)
      replace B0 := B0.grow (N6.g)
      replace B5 := B5.grow (N6.g)
      replace B32 := B32.grow (N6.g)
      try have k2 := k2.grow (N6.g)
      try have k5 := k5.grow (N6.g)
      have B6 := N6.blk
      refine sr_store_all rfl sz_api_Node (ev_t rfl) (ev_t rfl) rfl rfl B6 rfl rfl ?_
      intro wS6 hgS6 hzS6
      clear B6
      intro B6
      replace B0 := B0.keep hgS6 (by intro h; injection h with h; first | exact x6_0 h.symm | exact x0_6 h | omega)
      replace B5 := B5.keep hgS6 (by intro h; injection h with h; first | exact x6_5 h.symm | exact x5_6 h | omega)
      replace B32 := B32.keep hgS6 (by intro h; injection h with h; first | exact x6_32 h.symm | exact x32_6 h | omega)
      have g := g_only g hgS6 (by intro k hk; injection hk with hk; omega)
      first | replace gj5 := g_only gj5 hgS6 (by intro k hk; injection hk with hk; omega) | clear gj5 | skip
      have k5 := k5.keep hgS6 (fun b hb _ e => by injection e with e; have := l6_gj5; have := hb.2; omega)
      refine sr_sub [(0, _, _), (5, _, _), (6, _, _)] (sub_cons rfl (sub_cons rfl (sub_cons rfl (sub_nil _)))) ?_
      refine sr_nil (hK7 _ _ ?_)
      refine sc_seq fun K8 hK8 => ?_
      refine sc_text [0, 0, 1, 3, 2] ?_
      refine sr_rd rfl (rd_loads agg_api_Node (ev_t rfl) rfl (fun _ => B6.row)) ?_
      refine sr_rd rfl (rd_loads agg_api_Node (ev_t rfl) rfl (fun _ => B5.row)) ?_
      refine sr_buildSlice [_, _, _, _, _, _, _, _, _, _, _, _, _, _, _, _, _, _] rfl el_sl_api_Node ze_api_Node (parts_cons (ev_t rfl) (parts_cons (ev_t rfl) (parts_nil))) rfl rfl ?_
      intro b36 w36 N36
      have x36_0 := N36.ne B0
      have x36_5 := N36.ne B5
      have x36_32 := N36.ne B32
      have x36_6 := N36.ne B6
      have l36 := N36.ge g
      try have l36_gj5 := N36.ge gj5
      have g := g.trans (N36.g)
      try have gj5 := gj5.trans (N36.g)
      replace B0 := B0.grow (N36.g)
      replace B5 := B5.grow (N36.g)
      replace B32 := B32.grow (N36.g)
      replace B6 := B6.grow (N36.g)
      try have k2 := k2.grow (N36.g)
      try have k5 := k5.grow (N36.g)
      have B36 := N36.blk
      refine sr_pu rfl (fun _ => rd_build [_, _, _, _, _, _, _, _, _] ze_api_Node rfl pl_api_Node (parts_cons ev_c (parts_cons (ev_t rfl) (parts_nil))) rfl) ?_
      refine sr_store_all rfl sz_api_Node (ev_t rfl) (ev_t rfl) rfl rfl B0 rfl rfl ?_
      intro wS7 hgS7 hzS7
      clear B0
      intro B0
      replace B5 := B5.keep hgS7 (by intro h; injection h with h; first | exact x0_5 h.symm | exact x5_0 h | omega)
      replace B32 := B32.keep hgS7 (by intro h; injection h with h; first | exact x0_32 h.symm | exact x32_0 h | omega)
      replace B6 := B6.keep hgS7 (by intro h; injection h with h; first | exact x0_6 h.symm | exact x6_0 h | omega)
      replace B36 := B36.keep hgS7 (by intro h; injection h with h; first | exact x0_36 h.symm | exact x36_0 h | omega)
      have g := g_only g hgS7 (by intro k hk; injection hk with hk; omega)
      first | replace gj5 := g_only gj5 hgS7 (by intro k hk; injection hk with hk; omega) | clear gj5 | skip
      have k5 := k5.keep hgS7 (fun b hb _ e => by injection e with e; exact hb.1.2 e)
      refine sr_sub [(0, _, _)] (sub_cons rfl (sub_nil _)) ?_
      refine sr_nil (hK8 _ _ ?_)
      refine sc_ret (t_retv1 rfl (evr_c rfl agg_api_Node rfl (by first | exact B0.row | exact B5.row | exact B32.row | exact B6.row | exact B36.row) (evr_nil)) ?_)
      have k32 : Kd _ (GE w.heap.size) varN.kids (.slice (some ⟨b32, 0, none⟩) 2 2) := kd_row l32 B32.row (krow_cons (t := ndT 7 [105, 110, 116] []) (kd_nil _ _) (krow_one (t := ndT 9 [] []) (kd_nil _ _))) (Nat.le_refl _)
      have k36 : Kd _ (GE w.heap.size) smpN.kids (.slice (some ⟨b36, 0, none⟩) 2 2) := kd_row l36 B36.row (krow_cons (t := varN) k32 (krow_one (t := fncN bodyN) (k5.mono fun _ h _ => h.1.1))) (Nat.le_refl _)
      exact ⟨⟨_, _, rfl, k36⟩, g⟩
theorem smp_count : count smpN = 16 := by decide +kernel
theorem obj_grow {w w' : World} {k : Nat} {o : Obj} (h : w.heap[k]? = some o) (g : G w w') : w'.heap[k]? = some o := (g.block (Array.getElem?_eq_some_iff.1 h).1).trans h
theorem obj_only {w w' : World} {k j : Nat} {o : Obj} (h : w.heap[k]? = some o) (g : w.grownBy w' (some j)) (hj : k ≠ j) : w'.heap[k]? = some o := (g.block k (Array.getElem?_eq_some_iff.1 h).1 (fun e => hj (by injection e))).trans h
theorem underlying_fn {P : Program} {t : TypeId} (h : (match P.underlying t with | some (.func ..) => true | _ => false) = true) : ∃ a b c, P.underlying t = some (.func a b c) := by
  split at h
  · exact ⟨_, _, _, ‹_›⟩
  · cases h
theorem eq_fn {P : Program} {t : TypeId} {ps rs : Array TypeId} {v : Bool} (he : P.underlying t = some (.func ps rs v)) (f : Fn) (cs lb : Array Value) (d : Nat) (w : World) : (Op.equalIn (d + 1) t (.func f cs lb) .nilFunc).run P w = .ok false w := by
  simp [Op.equalIn, run_underlying he]
theorem rd_fneq {P : Program} {n : Nat} {σ : List Ent} {c : Prop} {wb : World} {ty t u : TypeId} {x : Operand} {f : Fn} {cs lb : Array Value} (ht : (match P.underlying t with | some (.func ..) => true | _ => false) = true) (h : Ev n σ c x (.func f cs lb)) : Rd P n σ c wb (.binOp .eql t x (.const .nilFunc) u) ty (.bool false) := fun d pos after gd a ha hc w1 _ => by
  obtain ⟨p, q, v, he⟩ := underlying_fn ht
  simp [execOp, h a ha hc, eval_const, eqGuard_at_func, binOp, Op.equal, Op.maxDepth, eq_fn he f cs lb 9999 w1]
end Go.Rk
namespace Go.Rk
open Go Go.RowKit
set_option linter.unusedVariables false
theorem smp_valid : validB smpN = true := by decide +kernel
theorem smp_eq : eqB smpN (stripT smpN) = true := by decide +kernel
theorem smp_text : printX smpN = [118, 97, 114, 32, 120, 32, 105, 110, 116, 10, 102, 117, 110, 99, 32, 102, 40, 97, 32, 105, 110, 116, 41, 32, 98, 111, 111, 108, 32, 123, 10, 9, 114, 101, 116, 117, 114, 110, 32, 97, 32, 60, 32, 40, 120, 32, 43, 32, 49, 41, 10, 125, 10] := by decide +kernel
theorem smp_ok : okNd smpN := by
  simp only [smpN, smpB, varN, fncN, parN, bodyN, lessN, sumN, ndT, okNd_eq, Nd.kids, Nd.kind, Nd.num, Nd.pos, Nd.ty, Nd.ref, Nd.up, ty0, rng, List.map_cons, List.map_nil, List.mem_cons, List.not_mem_nil]
  simp
theorem awake03_ok (w : World) (hL : Laid w) (hb3 : 4 ≤ w.heap.size) (hT : TabP w) : Ret PP fn_l03_awake #[] w fun r w' => r = .bool true ∧ G w w' := by
  have g := G.refl w
  refine ret_of_scd (m := 42) func_l03_awake rfl rfl [] (sub_nil _) ?_
  refine scd_seq fun K1 hK1 => ?_
  refine scd_text [1] ?_
  refine sr_alloc rfl ze_bool rfl ?_
  intro b0 w0 N0
  have l0 := N0.ge g
  have g := g.trans (N0.g)
  try have hk4 := hk4.grow (N0.g)
  try have hdb1 := obj_grow hdb1 (N0.g)
  have B0 := N0.blk
  refine sr_nil (hK1 _ _ _ ?_)
  refine scd_seq fun K2 hK2 => ?_
  refine scd_text [1, 1, 2] ?_
  refine sr_call rfl (rc_call go_l03_sample ev_f (args_nil) rfl) (sample_ok _) ?_
  rintro v4 w4 ⟨⟨p4, c4, rfl, hk4⟩, g4⟩
  refine ⟨fun _ => g4, ?_⟩
  have g := g.trans g4
  replace hk4 := hk4.lt
  replace B0 := B0.grow (g4)
  try have hk4 := hk4.grow (g4)
  try have hdb1 := obj_grow hdb1 (g4)
  refine sr_alloc rfl ze_api_Node rfl ?_
  intro b1 w1 N1
  have x1_0 := N1.ne B0
  have l1 := N1.ge g
  have g := g.trans (N1.g)
  replace B0 := B0.grow (N1.g)
  try have hk4 := hk4.grow (N1.g)
  try have hdb1 := obj_grow hdb1 (N1.g)
  have B1 := N1.blk
  refine sr_store_all rfl sz_api_Node (ev_t rfl) (ev_t rfl) rfl rfl B1 rfl rfl ?_
  intro wS1 hgS1 hzS1
  clear B1
  intro B1
  replace B0 := B0.keep hgS1 (by intro h; injection h with h; first | exact x1_0 h.symm | exact x0_1 h | omega)
  have g := g_only g hgS1 (by intro k hk; injection hk with hk; omega)
  have hk4 := hk4.keep hgS1 (fun b hb _ e => by injection e with e; have := hb.2; have := N1.at_; omega)
  have hsz4 : w4.heap.size ≤ wS1.heap.size := by have := N1.g.size; have := hgS1.size; omega
  refine sr_sub [(0, _, _), (1, _, _)] (sub_cons rfl (sub_cons rfl (sub_nil _))) ?_
  refine sr_nil (hK2 _ _ _ ?_)
  refine scd_seq fun K3 hK3 => ?_
  refine scd_text [0, 1, 3] ?_
  generalize hD4 : (fun b => GE _ b ∧ b < w4.heap.size) = D4 at hk4
  have hD : ∀ k, D4 k → k < w4.heap.size := fun k h => by rw [← hD4] at h; exact h.2
  refine sr_rd rfl (rd_loads agg_api_Node (ev_t rfl) rfl (fun _ => B1.row)) ?_
  refine sr_call rfl (rc_call go_syntax_Walk ev_f (args_cons (ev_t rfl) (args_nil)) rfl) (swalk_ok smpN _ D4 _ hk4 (fun k h => by have := hD k h; omega) (by rw [smp_count]; decide)) ?_
  rintro v6 w6 ⟨g6, bw, hbw, hbw2, rfl, hit⟩
  refine ⟨fun _ => g6, ?_⟩
  have g := g.trans g6
  have hk4 := hk4.grow g6
  have hsz6 := g6.size
  replace B0 := B0.grow (g6)
  replace B1 := B1.grow (g6)
  try have hk4 := hk4.grow (g6)
  try have hdb1 := obj_grow hdb1 (g6)
  have gW := G.refl w6
  refine sr_pu rfl (fun _ => rd_assign (ev_t rfl)) ?_
  refine sr_sub [(0, _, _), (1, _, _), (2, _, _)] (sub_cons rfl (sub_cons rfl (sub_cons rfl (sub_nil _)))) ?_
  refine sr_nil (hK3 _ _ _ ?_)
  refine scd_seq fun K4 hK4 => ?_
  refine scd_seq fun K5 hK5 => ?_
  refine scd_text [3, 3, 3, 0, 1, 3, 3] ?_
  refine sr_pu rfl (fun _ => rd_move (ev_t rfl)) ?_
  refine sr_pu rfl (fun _ => rd_fneq (by kernel_rfl) (ev_t rfl)) ?_
  refine sr_pu rfl (fun _ => rd_move (ev_t rfl)) ?_
  refine sr_rdg rfl rfl rfl (rd_loads agg_api_Node (ev_t rfl) rfl (fun _ => B1.row)) ?_
  refine sr_pureg rfl rfl rfl (fun _ => (rc_call go_syntax_Count ev_f (args_cons (ev_u rfl id) (args_nil)) rfl)) (fun hc => scount_ok smpN _ D4 _ hk4 (by rw [smp_count]; decide)) (fun w11 g11 => ?_)
  have g := g.trans (g11)
  try have gW := gW.trans (g11)
  replace B0 := B0.grow (g11)
  replace B1 := B1.grow (g11)
  try have hk4 := hk4.grow (g11)
  try have hdb1 := obj_grow hdb1 (g11)
  refine sr_pug rfl rfl rfl (fun _ => rd_ne (ev_u rfl id) ev_c) ?_
  refine sr_pu rfl (fun _ => rd_pick_or (ev_t rfl) (ev_u rfl id)) ?_
  refine sr_sub [(0, _, _), (1, _, _), (2, _, _), (13, _, _)] (sub_cons rfl (sub_cons rfl (sub_cons rfl (sub_cons rfl (sub_nil _))))) ?_
  refine sr_nil (hK5 _ _ _ ?_)
  refine scd_cond (ev_t rfl) (fun h1 => ?_) (fun h1 => ?_)
  · exfalso; rw [smp_count] at h1; revert h1; decide
    done
  (try simp only [bsimp] at h1)
  refine scd_skip (hK4 _ _ _ ?_)
  refine scd_sub [(0, _, _), (1, _, _), (2, _, _)] (sub_cons rfl (sub_cons rfl (sub_cons rfl (sub_nil _)))) ?_
  refine scd_seq fun K6 hK6 => ?_
  refine scd_text [1, 2] ?_
  refine sr_alloc rfl ze_int rfl ?_
  intro b3 w3 N3
  have x3_0 := N3.ne B0
  have x3_1 := N3.ne B1
  have l3 := N3.ge g
  try have l3_gW := N3.ge gW
  have g := g.trans (N3.g)
  try have gW := gW.trans (N3.g)
  replace B0 := B0.grow (N3.g)
  replace B1 := B1.grow (N3.g)
  try have hk4 := hk4.grow (N3.g)
  try have hdb1 := obj_grow hdb1 (N3.g)
  have B3 := N3.blk
  refine sr_store_all rfl sz_int (ev_t rfl) ev_c rfl rfl B3 rfl rfl ?_
  intro wS2 hgS2 hzS2
  clear B3
  intro B3
  replace B0 := B0.keep hgS2 (by intro h; injection h with h; first | exact x3_0 h.symm | exact x0_3 h | omega)
  replace B1 := B1.keep hgS2 (by intro h; injection h with h; first | exact x3_1 h.symm | exact x1_3 h | omega)
  have g := g_only g hgS2 (by intro k hk; injection hk with hk; omega)
  first | replace gW := g_only gW hgS2 (by intro k hk; injection hk with hk; omega) | clear gW | skip
  try have hk4 := hk4.keep hgS2 (fun b hb _ e => by injection e with e; have := hD b hb; omega)
  refine sr_nil (hK6 _ _ _ ?_)
  refine scd_seq fun K7 hK7 => ?_
  refine scd_seq fun K8 hK8 => ?_
  refine scd_text [3] ?_
  refine sr_pu rfl (fun _ => rd_move (ev_t rfl)) ?_
  refine sr_sub [(0, _, _), (1, _, _), (3, _, _), (14, _, _)] (sub_cons rfl (sub_cons rfl (sub_cons rfl (sub_cons rfl (sub_nil _))))) ?_
  refine sr_nil (hK8 _ _ _ ?_)
  refine scd_block ?_
  refine' scd_range (fs := #[]) (Nb := fun k => D4 k ∨ k = bw) (Bx := fun k => k = b3) (L := listN smpN) (En := EnN D4) (ev_t rfl) (go_syntax_Walk_1) (hit _ gW) (fun k hk => by rcases hk with hk | hk; (have := hD k hk; have := gW.size; omega); (have := gW.size; omega)) (fun k hk => ⟨by have := B3.lt; omega, fun h => by rcases h with h | h; (have := hD k h; omega); omega⟩) (fun pre A => Blk A b3 ty_int [.int .i64 (pre.length : Nat)]) (fun _ _ _ => False) [] rfl ?hI1 ?hX1 ?hE1 ?hG1 ?h01 ?body1 ?done1 ?stop1
  case hI1 =>
    exact fun pre A C h g => h.gi g
  case hX1 =>
    exact fun _ _ _ _ h _ => h.elim
  case hE1 =>
    exact fun x A args h => enN_one h
  case hG1 =>
    exact fun x A C args h g => enN_gi h g
  case h01 =>
    exact B3
  case body1 =>
    intro lk pre x v A hI1 hpre hx hsz KK hKK
    have g := G.refl A
    refine scd_sub [(0, _, _), (3, _, _)] (sub_cons rfl (sub_cons rfl (sub_nil _))) ?_
    refine scd_skip (hKK _ _ g ?_)
    intro C hgC hI1 hx
    have g := GB.refl (fun k => k = b3) C
    have B3 := hI1
    have hle : pre.length + 1 ≤ 16 := by have := hpre.length_le; rw [listN_length, smp_count] at this; simpa using this
    refine scd_block ?_
    refine scd_seq fun K9 hK9 => ?_
    refine scd_text [0, 3, 2] ?_
    refine sr_rd rfl (rd_load one_int (ev_t rfl) (fun _ => B3.at_ rfl)) ?_
    refine sr_pu rfl (fun _ => rd_add (ev_t rfl) ev_c (fun _ => by omega)) ?_
    refine sr_store_all rfl sz_int (ev_t rfl) (ev_t rfl) rfl rfl B3 rfl rfl ?_
    intro wS3 hgS3 hzS3
    clear B3
    intro B3
    have g := gb_only g hgS3 (by first | exact .inl (by simp) | exact .inr (by omega))
    try have hk4 := hk4.keep hgS3 (fun b hb _ e => by injection e with e; have := hD b hb; omega)
    refine sr_sub [(0, _, _), (3, _, _)] (sub_cons rfl (sub_cons rfl (sub_nil _))) ?_
    refine sr_nil (hK9 _ _ _ ?_)
    refine scd_seq fun K10 hK10 => ?_
    refine scd_text [0, 3] ?_
    refine sr_rd rfl (rd_load one_int (ev_t rfl) (fun _ => B3.at_ rfl)) ?_
    refine sr_pu rfl (fun _ => rd_gt (ev_t rfl) ev_c) ?_
    refine sr_sub [(0, _, _), (19, _, _)] (sub_cons rfl (sub_cons rfl (sub_nil _))) ?_
    refine sr_nil (hK10 _ _ _ ?_)
    refine scd_cond (ev_t rfl) (fun h2 => ?_) (fun h2 => ?_)
    · exfalso; simp at h2; omega
      done
    (try simp only [bsimp] at h2)
    refine scd_skip (fun a ha => ⟨rfl, ?_⟩)
    exact ⟨g, by simpa using B3⟩
  case done1 =>
    intro db1 W1 hI1 hge1 hdb1 hgb1
    have hwd := Nat.le_trans g.size hge1
    have hb0l := B0.lt
    have hb3l := B3.lt
    replace B0 := B0.gb hgb1 (fun h => x3_0 h.symm)
    replace B1 := B1.gb hgb1 (fun h => x3_1 h.symm)
    have hk4 := hk4.gb hgb1 (fun b hb h => by have := hD b hb; omega)
    have B3 := hI1
    have g := g_gb g hgb1 (fun k hk => by subst hk; omega)
    rw [listN_length, smp_count] at B3
    refine id (hK7 _ _ _ ?_)
    refine scd_sub [(0, _, _), (1, _, _), (3, _, _)] (sub_cons rfl (sub_cons rfl (sub_cons rfl (sub_nil _)))) ?_
    refine scd_seq fun K11 hK11 => ?_
    refine scd_draw [0, 3, 3, 0, 1, 3, 3, 0, 1, 3, 3, 3, 0, 0, 1, 1, 3, 3, 0, 1, 3, 3, 2] [true, true, true, true, true, true, true, true, true, true, true, true, true, true, true, true, true, true, true, true, true, true, true] [0, 1, 3, 7, 15, 31, 63, 127, 255, 511, 1023, 2047, 4095, 4095, 12287, 32767, 65535, 131071, 262143, 524287, 1048575, 2097151, 4194303] mix (by kernel_rfl) ?_
    have g := g.trans (G.drew _)
    replace B0 := B0.grow (G.drew _)
    replace B1 := B1.grow (G.drew _)
    replace B3 := B3.grow (G.drew _)
    try have hk4 := hk4.grow (G.drew _)
    try have hdb1 := obj_grow hdb1 (G.drew _)
    refine sr_rd rfl (rd_load one_int (ev_t rfl) (fun _ => B3.at_ rfl)) ?_
    refine sr_pu rfl (fun _ => rd_eq (ev_t rfl) ev_c) ?_
    refine sr_pu rfl (fun _ => rd_move (ev_t rfl)) ?_
    refine sr_rdg rfl rfl rfl (rd_loads agg_api_Node (ev_t rfl) rfl (fun _ => B1.row)) ?_
    refine sr_pureg rfl rfl rfl (fun _ => (rc_call go_syntax_Valid ev_f (args_cons (ev_u rfl id) (args_nil)) rfl)) (fun hc => svalid_ok smpN _ D4 _ (hL.grow g) (by have := g.size; omega) hk4 (by rw [smp_count]; decide)) (fun w24 g24 => ?_)
    have g := g.trans (g24)
    replace B0 := B0.grow (g24)
    replace B1 := B1.grow (g24)
    replace B3 := B3.grow (g24)
    try have hk4 := hk4.grow (g24)
    try have hdb1 := obj_grow hdb1 (g24)
    refine sr_pu rfl (fun _ => rd_pick_and (ev_t rfl) (ev_u rfl id)) ?_
    refine sr_pu rfl (fun _ => rd_move (ev_t rfl)) ?_
    refine sr_rdg rfl rfl rfl (rd_loads agg_api_Node (ev_t rfl) rfl (fun _ => B1.row)) ?_
    refine sr_pureg rfl rfl rfl (fun _ => (rc_call go_syntax_Count ev_f (args_cons (ev_u rfl id) (args_nil)) rfl)) (fun hc => scount_ok smpN _ D4 _ hk4 (by rw [smp_count]; decide)) (fun w28 g28 => ?_)
    have g := g.trans (g28)
    replace B0 := B0.grow (g28)
    replace B1 := B1.grow (g28)
    replace B3 := B3.grow (g28)
    try have hk4 := hk4.grow (g28)
    try have hdb1 := obj_grow hdb1 (g28)
    refine sr_pug rfl rfl rfl (fun _ => rd_eq (ev_u rfl id) ev_c) ?_
    refine sr_pu rfl (fun _ => rd_pick_and (ev_t rfl) (ev_u rfl id)) ?_
    refine sr_pu rfl (fun _ => rd_move (ev_t rfl)) ?_
    refine sr_rdg rfl rfl rfl (rd_loads agg_api_Node (ev_t rfl) rfl (fun _ => B1.row)) ?_
    refine sr_rdg rfl rfl rfl (rd_loads agg_api_Node (ev_t rfl) rfl (fun _ => B1.row)) ?_
    refine sr_callq rfl rfl rfl (fun _ => rc_call go_syntax_Strip ev_f (args_cons (ev_u rfl id) (args_nil)) rfl) (fun hc => sstrip_ok smpN _ D4 _ hk4 (by decide) (by rw [smp_count]; decide)) ?_
    intro v34 w34 hv34 g34
    have g := g.trans (g34)
    replace B0 := B0.grow (g34)
    replace B1 := B1.grow (g34)
    replace B3 := B3.grow (g34)
    try have hk4 := hk4.grow (g34)
    try have hdb1 := obj_grow hdb1 (g34)
    refine sr_pureg rfl rfl rfl (fun _ => (rc_call go_syntax_Equal ev_f (args_cons (ev_u rfl id) (args_cons (ev_u rfl id) (args_nil))) rfl)) (fun hc => (by obtain ⟨p5, c5, e5, k5⟩ := hv34 hc; rw [e5]; exact sequal_ok smpN _ D4 (stripT smpN) _ _ _ hk4 k5 (by rw [smp_count]; decide))) (fun w35 g35 => ?_)
    have g := g.trans (g35)
    replace B0 := B0.grow (g35)
    replace B1 := B1.grow (g35)
    replace B3 := B3.grow (g35)
    try have hk4 := hk4.grow (g35)
    try have hdb1 := obj_grow hdb1 (g35)
    refine sr_pu rfl (fun _ => rd_pick_and (ev_t rfl) (ev_u rfl id)) ?_
    refine sr_pu rfl (fun _ => rd_move (ev_t rfl)) ?_
    refine sr_rdg rfl rfl rfl (rd_loads agg_api_Node (ev_t rfl) rfl (fun _ => B1.row)) ?_
    refine sr_pureg rfl rfl rfl (fun _ => (rc_call go_syntax_Print ev_f (args_cons (ev_u rfl id) (args_nil)) rfl)) (fun hc => print_ok smpN _ D4 _ (hL.grow g) (by have := g.size; omega) (hT.grow g) hk4 (by rw [smp_count]; decide) smp_ok (by rw [smp_text]; decide)) (fun w39 g39 => ?_)
    have g := g.trans (g39)
    replace B0 := B0.grow (g39)
    replace B1 := B1.grow (g39)
    replace B3 := B3.grow (g39)
    try have hk4 := hk4.grow (g39)
    try have hdb1 := obj_grow hdb1 (g39)
    refine sr_pug rfl rfl rfl (fun _ => rd_seq (ev_u rfl id) ev_c) ?_
    refine sr_pu rfl (fun _ => rd_pick_and (ev_t rfl) (ev_u rfl id)) ?_
    refine sr_store_all rfl sz_bool (ev_t rfl) (ev_t rfl) rfl rfl B0 rfl rfl ?_
    intro wS4 hgS4 hzS4
    clear B0
    intro B0
    replace B1 := B1.keep hgS4 (by intro h; injection h with h; first | exact x0_1 h.symm | exact x1_0 h | omega)
    replace B3 := B3.keep hgS4 (by intro h; injection h with h; first | exact x0_3 h.symm | exact x3_0 h | omega)
    have g := g_only g hgS4 (by intro k hk; injection hk with hk; omega)
    try have hdb1 := obj_only hdb1 hgS4 (by omega)
    refine sr_nil (hK11 _ _ _ ?_)
    refine scd_ret (?_)
    refine td_mark hdb1 ?_
    have hgi := gi_putObj (.deferred none) hdb1 rfl hwd
    replace B0 := B0.gi hgi
    have g := g_gi g hgi (Nat.le_refl _)
    refine td_ret (t_retv1 rfl (evr_c1 rfl one_bool (by first | exact B0.at_ rfl | exact B1.at_ rfl | exact B3.at_ rfl) (evr_nil)) ?_)
    refine ⟨congrArg Value.bool ?_, g⟩
    rw [smp_valid, smp_count, smp_eq, smp_text]; rfl
  case stop1 =>
    intro db1 c1 pre x W1 hI1 hpre hge1 hdb1 hgb1
    exact hI1.elim
end Go.Rk
namespace Go.Rk
open Go Go.RowKit
set_option linter.unusedVariables false
end Go.Rk
namespace Go.Rk
open Go Go.RowKit
set_option linter.unusedVariables false
def nestN : Nat → Nd
  | 0 => ndT 10 [] []
  | n + 1 => ndT 10 [] [nestN n]
theorem nest_valid {n : Nat} (h : n < 64) : validB (smpB (nestN n)) = decide (n + 3 ≤ 50) := by
  have k : (List.range 64).all (fun n => validB (smpB (nestN n)) == decide (n + 3 ≤ 50)) = true := by decide +kernel
  have := List.all_eq_true.1 k n (List.mem_range.2 h)
  simpa using this
set_option maxHeartbeats 1000000 in
theorem sample2_ok (w : World) : Ret PP fn_l03_sample #[] w fun r w' => (∃ (b36 b28 : Nat) (vv vp vb : Value), r = ndV smpN (.slice (some ⟨b36, 0, none⟩) 2 2) ∧ Blk w' b36 ty_api_Node (ndCells varN vv ++ ndCells (fncN bodyN) (.slice (some ⟨b28, 0, none⟩) 3 3)) ∧
    Blk w' b28 ty_api_Node (ndCells parN vp ++ (ndCells (ndT 7 [98, 111, 111, 108] []) (.slice none 0 0) ++ ndCells bodyN vb)) ∧ b28 ≠ b36 ∧ w.heap.size ≤ b36 ∧ w.heap.size ≤ b28 ∧ Kd w' (fun k => w.heap.size ≤ k ∧ k ≠ b28 ∧ k ≠ b36) varN.kids vv ∧ Kd w' (fun k => w.heap.size ≤ k ∧ k ≠ b28 ∧ k ≠ b36) parN.kids vp) ∧ G w w' := by
  have g := G.refl w
  refine ret_of_sc (m := 38) func_l03_sample rfl rfl [] (sub_nil _) ?_
  refine sc_seq fun K1 hK1 => ?_
  refine sc_text [1] ?_
  refine sr_alloc rfl ze_api_Node rfl ?_
  intro b0 w0 N0
  have l0 := N0.ge g
  have g := g.trans (N0.g)
  try have k2 := k2.grow (N0.g)
  try have k5 := k5.grow (N0.g)
  have B0 := N0.blk
  refine sr_nil (hK1 _ _ ?_)
  refine sc_seq fun K2 hK2 => ?_
  refine sc_text [1, 3, 1, 3, 1, 2] ?_
  refine sr_call rfl (rc_call go_l03_name ev_f (args_cons ev_c (args_nil)) rfl) (lname03_ok _ _) ?_
  rintro v7 w7 ⟨rfl, g7⟩
  refine ⟨fun _ => g7, ?_⟩
  have g := g.trans (g7)
  replace B0 := B0.grow (g7)
  try have k2 := k2.grow (g7)
  try have k5 := k5.grow (g7)
  refine sr_pu rfl (fun _ => rd_build [_, _, _, _, _, _, _, _, _] ze_api_Node rfl pl_api_Node (parts_cons ev_c (parts_cons ev_c (parts_nil))) rfl) ?_
  refine sr_buildSlice [_, _, _, _, _, _, _, _, _, _, _, _, _, _, _, _, _, _] rfl el_sl_api_Node ze_api_Node (parts_cons (ev_t rfl) (parts_cons (ev_t rfl) (parts_nil))) rfl rfl ?_
  intro b9 w9 N9
  have x9_0 := N9.ne B0
  have l9 := N9.ge g
  have g := g.trans (N9.g)
  replace B0 := B0.grow (N9.g)
  try have k2 := k2.grow (N9.g)
  try have k5 := k5.grow (N9.g)
  have B9 := N9.blk
  refine sr_pu rfl (fun _ => rd_build [_, _, _, _, _, _, _, _, _] ze_api_Node rfl pl_api_Node (parts_cons ev_c (parts_cons ev_c (parts_cons (ev_t rfl) (parts_nil)))) rfl) ?_
  refine sr_alloc rfl ze_api_Node rfl ?_
  intro b1 w1 N1
  have x1_0 := N1.ne B0
  have x1_9 := N1.ne B9
  have l1 := N1.ge g
  have g := g.trans (N1.g)
  replace B0 := B0.grow (N1.g)
  replace B9 := B9.grow (N1.g)
  try have k2 := k2.grow (N1.g)
  try have k5 := k5.grow (N1.g)
  have B1 := N1.blk
  refine sr_store_all rfl sz_api_Node (ev_t rfl) (ev_t rfl) rfl rfl B1 rfl rfl ?_
  intro wS1 hgS1 hzS1
  clear B1
  intro B1
  replace B0 := B0.keep hgS1 (by intro h; injection h with h; first | exact x1_0 h.symm | exact x0_1 h | omega)
  replace B9 := B9.keep hgS1 (by intro h; injection h with h; first | exact x1_9 h.symm | exact x9_1 h | omega)
  have g := g_only g hgS1 (by intro k hk; injection hk with hk; omega)
  refine sr_sub [(0, _, _), (1, _, _)] (sub_cons rfl (sub_cons rfl (sub_nil _))) ?_
  refine sr_nil (hK2 _ _ ?_)
  refine sc_mid (fun (b2 : Nat) => [(0, True, .pointer (some ⟨b0, 0, none⟩)), (2, True, .pointer (some ⟨b2, 0, none⟩))]) (fun (b2 : Nat) u => G w u ∧ b2 ≠ b0 ∧ Blk u b0 ty_api_Node (ndCells nd0 (.slice none 0 0)) ∧ ∃ p c, Blk u b2 ty_api_Node (ndCells lessN (.slice p lessN.kids.length c)) ∧ Kd u (GZ w.heap.size b0) lessN.kids (.slice p lessN.kids.length c)) ?_ ?_
  · refine sc_drawT none [1, 0, 1, 3, 1, 2] [0, 0, 3, 7, 0, 31] mix (by kernel_rfl) [0, 1, 2, 3, 4, 5] rfl ?_
    have g := g.trans (G.drew _)
    replace B0 := B0.grow (G.drew _)
    replace B9 := B9.grow (G.drew _)
    replace B1 := B1.grow (G.drew _)
    try have k2 := k2.grow (G.drew _)
    try have k5 := k5.grow (G.drew _)
    refine st_rd (L' := [0, 2, 3, 4, 5]) 1 rfl rfl rfl (fun w1 hx => rd_loads agg_api_Node (ev_t rfl) rfl (fun _ => (B1.keep hx (by intro h; first | (injection h with h; omega) | cases h)).row)) ?_
    refine st_eff2 0 4 rfl rfl ?_ ?_
    · refine ste_of_sr (L' := [2, 3, 4, 5]) [1, 0, 1, 3, 1, 2] rfl rfl rfl ?_
      refine sr_call rfl (rc_call go_l03_name ev_f (args_cons ev_c (args_nil)) rfl) (lname03_ok _ _) ?_
      rintro v11 w11 ⟨rfl, g11⟩
      refine ⟨fun _ => g11, ?_⟩
      have g := g.trans (g11)
      replace B0 := B0.grow (g11)
      replace B9 := B9.grow (g11)
      replace B1 := B1.grow (g11)
      try have k2 := k2.grow (g11)
      try have k5 := k5.grow (g11)
      refine sr_nilT ((g11).only _) ?_
      refine st_eff2 2 4 rfl rfl ?_ ?_
      · refine ste_of_sr (L' := [3, 4, 5]) [1, 0, 1, 3, 1, 2] rfl rfl rfl ?_
        refine sr_buildSlice [_, _, _, _, _, _, _, _, _, _, _, _, _, _, _, _, _, _] rfl el_sl_api_Node ze_api_Node (parts_cons (ev_t rfl) (parts_cons (ev_t rfl) (parts_nil))) rfl rfl ?_
        intro b13 w13 N13
        have x13_0 := N13.ne B0
        have x13_9 := N13.ne B9
        have x13_1 := N13.ne B1
        have l13 := N13.ge g
        have g := g.trans (N13.g)
        replace B0 := B0.grow (N13.g)
        replace B9 := B9.grow (N13.g)
        replace B1 := B1.grow (N13.g)
        try have k2 := k2.grow (N13.g)
        try have k5 := k5.grow (N13.g)
        have B13 := N13.blk
        refine sr_nilT ((N13.g).only _) ?_
        refine st_pu (L' := [4, 5]) 3 rfl rfl rfl (fun _ => rd_build [_, _, _, _, _, _, _, _, _] ze_api_Node rfl pl_api_Node (parts_cons ev_c (parts_cons ev_c (parts_cons (ev_t rfl) (parts_nil)))) rfl) ?_
        refine st_eff1 4 rfl rfl ?_
        refine ste_of_sr (L' := [5]) [1, 0, 1, 3, 1, 2] rfl rfl rfl ?_
        refine sr_alloc rfl ze_api_Node rfl ?_
        intro b2 w2 N2
        have x2_0 := N2.ne B0
        have x2_9 := N2.ne B9
        have x2_1 := N2.ne B1
        have x2_13 := N2.ne B13
        have l2 := N2.ge g
        have g := g.trans (N2.g)
        replace B0 := B0.grow (N2.g)
        replace B9 := B9.grow (N2.g)
        replace B1 := B1.grow (N2.g)
        replace B13 := B13.grow (N2.g)
        try have k2 := k2.grow (N2.g)
        try have k5 := k5.grow (N2.g)
        have B2 := N2.blk
        refine sr_nilT ((N2.g).only _) ?_
        refine st_eff1 5 rfl rfl ?_
        refine ste2_of_sr (L' := []) [1, 0, 1, 3, 1, 2] rfl rfl rfl rfl ?_
        refine sr_store_all rfl sz_api_Node (ev_t rfl) (ev_t rfl) rfl rfl B2 rfl rfl ?_
        intro wS2 hgS2 hzS2
        clear B2
        intro B2
        replace B0 := B0.keep hgS2 (by intro h; injection h with h; first | exact x2_0 h.symm | exact x0_2 h | omega)
        replace B9 := B9.keep hgS2 (by intro h; injection h with h; first | exact x2_9 h.symm | exact x9_2 h | omega)
        replace B1 := B1.keep hgS2 (by intro h; injection h with h; first | exact x2_1 h.symm | exact x1_2 h | omega)
        replace B13 := B13.keep hgS2 (by intro h; injection h with h; first | exact x2_13 h.symm | exact x13_2 h | omega)
        have g := g_only g hgS2 (by intro k hk; injection hk with hk; omega)
        refine sr_nilT2 ?_
        refine st_sub [(0, _, _), (2, _, _)] (sub_cons rfl (sub_cons rfl (sub_nil _))) ?_
        refine st_nil (fun a ha => ?_)
        exact ⟨b2, ha, g, x2_0, B0, _, _, B2, kd_row (D := GZ w.heap.size b0) (ks := lessN.kids) ⟨l13, x13_0⟩ B13.row (krow_cons (t := ndT 27 [97] []) (kd_nil _ _) (krow_one (t := sumN) (kd_row (D := GZ w.heap.size b0) (ks := sumN.kids) ⟨l9, x9_0⟩ B9.row (krow_cons (t := ndT 27 [120] []) (kd_nil _ _) (krow_one (t := .mk 24 [] 1 0 [] ty0 0 0) (kd_nil _ _))) (Nat.le_refl _)))) (Nat.le_refl _)⟩
      · refine ste_of_sr (L' := [2, 3, 5]) [1, 0, 1, 3, 1, 2] rfl rfl rfl ?_
        refine sr_alloc rfl ze_api_Node rfl ?_
        intro b2 w2 N2
        have x2_0 := N2.ne B0
        have x2_9 := N2.ne B9
        have x2_1 := N2.ne B1
        have l2 := N2.ge g
        have g := g.trans (N2.g)
        replace B0 := B0.grow (N2.g)
        replace B9 := B9.grow (N2.g)
        replace B1 := B1.grow (N2.g)
        try have k2 := k2.grow (N2.g)
        try have k5 := k5.grow (N2.g)
        have B2 := N2.blk
        refine sr_nilT ((N2.g).only _) ?_
        refine st_eff1 2 rfl rfl ?_
        refine ste_of_sr (L' := [3, 5]) [1, 0, 1, 3, 1, 2] rfl rfl rfl ?_
        refine sr_buildSlice [_, _, _, _, _, _, _, _, _, _, _, _, _, _, _, _, _, _] rfl el_sl_api_Node ze_api_Node (parts_cons (ev_t rfl) (parts_cons (ev_t rfl) (parts_nil))) rfl rfl ?_
        intro b13 w13 N13
        have x13_0 := N13.ne B0
        have x13_9 := N13.ne B9
        have x13_1 := N13.ne B1
        have x13_2 := N13.ne B2
        have l13 := N13.ge g
        have g := g.trans (N13.g)
        replace B0 := B0.grow (N13.g)
        replace B9 := B9.grow (N13.g)
        replace B1 := B1.grow (N13.g)
        replace B2 := B2.grow (N13.g)
        try have k2 := k2.grow (N13.g)
        try have k5 := k5.grow (N13.g)
        have B13 := N13.blk
        refine sr_nilT ((N13.g).only _) ?_
        refine st_pu (L' := [5]) 3 rfl rfl rfl (fun _ => rd_build [_, _, _, _, _, _, _, _, _] ze_api_Node rfl pl_api_Node (parts_cons ev_c (parts_cons ev_c (parts_cons (ev_t rfl) (parts_nil)))) rfl) ?_
        refine st_eff1 5 rfl rfl ?_
        refine ste2_of_sr (L' := []) [1, 0, 1, 3, 1, 2] rfl rfl rfl rfl ?_
        refine sr_store_all rfl sz_api_Node (ev_t rfl) (ev_t rfl) rfl rfl B2 rfl rfl ?_
        intro wS2 hgS2 hzS2
        clear B2
        intro B2
        replace B0 := B0.keep hgS2 (by intro h; injection h with h; first | exact x2_0 h.symm | exact x0_2 h | omega)
        replace B9 := B9.keep hgS2 (by intro h; injection h with h; first | exact x2_9 h.symm | exact x9_2 h | omega)
        replace B1 := B1.keep hgS2 (by intro h; injection h with h; first | exact x2_1 h.symm | exact x1_2 h | omega)
        replace B13 := B13.keep hgS2 (by intro h; injection h with h; first | exact x2_13 h.symm | exact x13_2 h | omega)
        have g := g_only g hgS2 (by intro k hk; injection hk with hk; omega)
        refine sr_nilT2 ?_
        refine st_sub [(0, _, _), (2, _, _)] (sub_cons rfl (sub_cons rfl (sub_nil _))) ?_
        refine st_nil (fun a ha => ?_)
        exact ⟨b2, ha, g, x2_0, B0, _, _, B2, kd_row (D := GZ w.heap.size b0) (ks := lessN.kids) ⟨l13, x13_0⟩ B13.row (krow_cons (t := ndT 27 [97] []) (kd_nil _ _) (krow_one (t := sumN) (kd_row (D := GZ w.heap.size b0) (ks := sumN.kids) ⟨l9, x9_0⟩ B9.row (krow_cons (t := ndT 27 [120] []) (kd_nil _ _) (krow_one (t := .mk 24 [] 1 0 [] ty0 0 0) (kd_nil _ _))) (Nat.le_refl _)))) (Nat.le_refl _)⟩
    · refine ste_of_sr (L' := [0, 2, 3, 5]) [1, 0, 1, 3, 1, 2] rfl rfl rfl ?_
      refine sr_alloc rfl ze_api_Node rfl ?_
      intro b2 w2 N2
      have x2_0 := N2.ne B0
      have x2_9 := N2.ne B9
      have x2_1 := N2.ne B1
      have l2 := N2.ge g
      have g := g.trans (N2.g)
      replace B0 := B0.grow (N2.g)
      replace B9 := B9.grow (N2.g)
      replace B1 := B1.grow (N2.g)
      try have k2 := k2.grow (N2.g)
      try have k5 := k5.grow (N2.g)
      have B2 := N2.blk
      refine sr_nilT ((N2.g).only _) ?_
      refine st_eff1 0 rfl rfl ?_
      refine ste_of_sr (L' := [2, 3, 5]) [1, 0, 1, 3, 1, 2] rfl rfl rfl ?_
      refine sr_call rfl (rc_call go_l03_name ev_f (args_cons ev_c (args_nil)) rfl) (lname03_ok _ _) ?_
      rintro v11 w11 ⟨rfl, g11⟩
      refine ⟨fun _ => g11, ?_⟩
      have g := g.trans (g11)
      replace B0 := B0.grow (g11)
      replace B9 := B9.grow (g11)
      replace B1 := B1.grow (g11)
      replace B2 := B2.grow (g11)
      try have k2 := k2.grow (g11)
      try have k5 := k5.grow (g11)
      refine sr_nilT ((g11).only _) ?_
      refine st_eff1 2 rfl rfl ?_
      refine ste_of_sr (L' := [3, 5]) [1, 0, 1, 3, 1, 2] rfl rfl rfl ?_
      refine sr_buildSlice [_, _, _, _, _, _, _, _, _, _, _, _, _, _, _, _, _, _] rfl el_sl_api_Node ze_api_Node (parts_cons (ev_t rfl) (parts_cons (ev_t rfl) (parts_nil))) rfl rfl ?_
      intro b13 w13 N13
      have x13_0 := N13.ne B0
      have x13_9 := N13.ne B9
      have x13_1 := N13.ne B1
      have x13_2 := N13.ne B2
      have l13 := N13.ge g
      have g := g.trans (N13.g)
      replace B0 := B0.grow (N13.g)
      replace B9 := B9.grow (N13.g)
      replace B1 := B1.grow (N13.g)
      replace B2 := B2.grow (N13.g)
      try have k2 := k2.grow (N13.g)
      try have k5 := k5.grow (N13.g)
      have B13 := N13.blk
      refine sr_nilT ((N13.g).only _) ?_
      refine st_pu (L' := [5]) 3 rfl rfl rfl (fun _ => rd_build [_, _, _, _, _, _, _, _, _] ze_api_Node rfl pl_api_Node (parts_cons ev_c (parts_cons ev_c (parts_cons (ev_t rfl) (parts_nil)))) rfl) ?_
      refine st_eff1 5 rfl rfl ?_
      refine ste2_of_sr (L' := []) [1, 0, 1, 3, 1, 2] rfl rfl rfl rfl ?_
      refine sr_store_all rfl sz_api_Node (ev_t rfl) (ev_t rfl) rfl rfl B2 rfl rfl ?_
      intro wS2 hgS2 hzS2
      clear B2
      intro B2
      replace B0 := B0.keep hgS2 (by intro h; injection h with h; first | exact x2_0 h.symm | exact x0_2 h | omega)
      replace B9 := B9.keep hgS2 (by intro h; injection h with h; first | exact x2_9 h.symm | exact x9_2 h | omega)
      replace B1 := B1.keep hgS2 (by intro h; injection h with h; first | exact x2_1 h.symm | exact x1_2 h | omega)
      replace B13 := B13.keep hgS2 (by intro h; injection h with h; first | exact x2_13 h.symm | exact x13_2 h | omega)
      have g := g_only g hgS2 (by intro k hk; injection hk with hk; omega)
      refine sr_nilT2 ?_
      refine st_sub [(0, _, _), (2, _, _)] (sub_cons rfl (sub_cons rfl (sub_nil _))) ?_
      refine st_nil (fun a ha => ?_)
      exact ⟨b2, ha, g, x2_0, B0, _, _, B2, kd_row (D := GZ w.heap.size b0) (ks := lessN.kids) ⟨l13, x13_0⟩ B13.row (krow_cons (t := ndT 27 [97] []) (kd_nil _ _) (krow_one (t := sumN) (kd_row (D := GZ w.heap.size b0) (ks := sumN.kids) ⟨l9, x9_0⟩ B9.row (krow_cons (t := ndT 27 [120] []) (kd_nil _ _) (krow_one (t := .mk 24 [] 1 0 [] ty0 0 0) (kd_nil _ _))) (Nat.le_refl _)))) (Nat.le_refl _)⟩
  · rintro b2 wj2 ⟨g, x2_0, B0, p2, c2, B2, k2⟩
    have gj2 := G.refl wj2
    replace k2 := k2.lt
    refine sc_seq fun K4 hK4 => ?_
    refine sc_text [0, 1, 3, 1, 3, 1, 2] ?_
    refine sr_rd rfl (rd_loads agg_api_Node (ev_t rfl) rfl (fun _ => B2.row)) ?_
    refine sr_buildSlice [_, _, _, _, _, _, _, _, _] rfl el_sl_api_Node ze_api_Node (parts_cons (ev_t rfl) (parts_nil)) rfl rfl ?_
    intro b16 w16 N16
    have x16_0 := N16.ne B0
    have x16_2 := N16.ne B2
    have l16 := N16.ge g
    try have l16_gj2 := N16.ge gj2
    have g := g.trans (N16.g)
    try have gj2 := gj2.trans (N16.g)
    replace B0 := B0.grow (N16.g)
    replace B2 := B2.grow (N16.g)
    try have k2 := k2.grow (N16.g)
    try have k5 := k5.grow (N16.g)
    have B16 := N16.blk
    refine sr_pu rfl (fun _ => rd_build [_, _, _, _, _, _, _, _, _] ze_api_Node rfl pl_api_Node (parts_cons ev_c (parts_cons (ev_t rfl) (parts_nil))) rfl) ?_
    refine sr_buildSlice [_, _, _, _, _, _, _, _, _] rfl el_sl_api_Node ze_api_Node (parts_cons (ev_t rfl) (parts_nil)) rfl rfl ?_
    intro b18 w18 N18
    have x18_0 := N18.ne B0
    have x18_2 := N18.ne B2
    have x18_16 := N18.ne B16
    have l18 := N18.ge g
    try have l18_gj2 := N18.ge gj2
    have g := g.trans (N18.g)
    try have gj2 := gj2.trans (N18.g)
    replace B0 := B0.grow (N18.g)
    replace B2 := B2.grow (N18.g)
    replace B16 := B16.grow (N18.g)
    try have k2 := k2.grow (N18.g)
    try have k5 := k5.grow (N18.g)
    have B18 := N18.blk
    refine sr_pu rfl (fun _ => rd_build [_, _, _, _, _, _, _, _, _] ze_api_Node rfl pl_api_Node (parts_cons ev_c (parts_cons (ev_t rfl) (parts_nil))) rfl) ?_
    refine sr_alloc rfl ze_api_Node rfl ?_
    intro b3 w3 N3
    have x3_0 := N3.ne B0
    have x3_2 := N3.ne B2
    have x3_16 := N3.ne B16
    have x3_18 := N3.ne B18
    have l3 := N3.ge g
    try have l3_gj2 := N3.ge gj2
    have g := g.trans (N3.g)
    try have gj2 := gj2.trans (N3.g)
    replace B0 := B0.grow (N3.g)
    replace B2 := B2.grow (N3.g)
    replace B16 := B16.grow (N3.g)
    replace B18 := B18.grow (N3.g)
    try have k2 := k2.grow (N3.g)
    try have k5 := k5.grow (N3.g)
    have B3 := N3.blk
    refine sr_store_all rfl sz_api_Node (ev_t rfl) (ev_t rfl) rfl rfl B3 rfl rfl ?_
    intro wS3 hgS3 hzS3
    clear B3
    intro B3
    replace B0 := B0.keep hgS3 (by intro h; injection h with h; first | exact x3_0 h.symm | exact x0_3 h | omega)
    replace B2 := B2.keep hgS3 (by intro h; injection h with h; first | exact x3_2 h.symm | exact x2_3 h | omega)
    replace B16 := B16.keep hgS3 (by intro h; injection h with h; first | exact x3_16 h.symm | exact x16_3 h | omega)
    replace B18 := B18.keep hgS3 (by intro h; injection h with h; first | exact x3_18 h.symm | exact x18_3 h | omega)
    have g := g_only g hgS3 (by intro k hk; injection hk with hk; omega)
    first | replace gj2 := g_only gj2 hgS3 (by intro k hk; injection hk with hk; omega) | clear gj2 | skip
    have k2 := k2.keep hgS3 (fun b hb _ e => by injection e with e; have := l3_gj2; have := hb.2; omega)
    refine sr_sub [(0, _, _), (3, _, _)] (sub_cons rfl (sub_cons rfl (sub_nil _))) ?_
    refine sr_nil (hK4 _ _ ?_)
    refine sc_seq fun K5 hK5 => ?_
    refine sc_text [1, 1, 3, 1, 3, 1, 2] ?_
    refine sr_call rfl (rc_call go_l03_typed ev_f (args_cons ev_c (args_nil)) rfl) (ltyped03_ok _ _) ?_
    rintro v20 w20 ⟨rfl, g20⟩
    refine ⟨fun _ => g20, ?_⟩
    have g := g.trans (g20)
    try have gj2 := gj2.trans (g20)
    replace B0 := B0.grow (g20)
    replace B2 := B2.grow (g20)
    replace B16 := B16.grow (g20)
    replace B18 := B18.grow (g20)
    replace B3 := B3.grow (g20)
    try have k2 := k2.grow (g20)
    try have k5 := k5.grow (g20)
    refine sr_buildSlice [_, _, _, _, _, _, _, _, _] rfl el_sl_api_Node ze_api_Node (parts_cons (ev_t rfl) (parts_nil)) rfl rfl ?_
    intro b21 w21 N21
    have x21_0 := N21.ne B0
    have x21_2 := N21.ne B2
    have x21_16 := N21.ne B16
    have x21_18 := N21.ne B18
    have x21_3 := N21.ne B3
    have l21 := N21.ge g
    try have l21_gj2 := N21.ge gj2
    have g := g.trans (N21.g)
    try have gj2 := gj2.trans (N21.g)
    replace B0 := B0.grow (N21.g)
    replace B2 := B2.grow (N21.g)
    replace B16 := B16.grow (N21.g)
    replace B18 := B18.grow (N21.g)
    replace B3 := B3.grow (N21.g)
    try have k2 := k2.grow (N21.g)
    try have k5 := k5.grow (N21.g)
    have B21 := N21.blk
    refine sr_pu rfl (fun _ => rd_build [_, _, _, _, _, _, _, _, _] ze_api_Node rfl pl_api_Node (parts_cons ev_c (parts_cons ev_c (parts_cons (ev_t rfl) (parts_nil)))) rfl) ?_
    refine sr_buildSlice [_, _, _, _, _, _, _, _, _] rfl el_sl_api_Node ze_api_Node (parts_cons (ev_t rfl) (parts_nil)) rfl rfl ?_
    intro b23 w23 N23
    have x23_0 := N23.ne B0
    have x23_2 := N23.ne B2
    have x23_16 := N23.ne B16
    have x23_18 := N23.ne B18
    have x23_3 := N23.ne B3
    have x23_21 := N23.ne B21
    have l23 := N23.ge g
    try have l23_gj2 := N23.ge gj2
    have g := g.trans (N23.g)
    try have gj2 := gj2.trans (N23.g)
    replace B0 := B0.grow (N23.g)
    replace B2 := B2.grow (N23.g)
    replace B16 := B16.grow (N23.g)
    replace B18 := B18.grow (N23.g)
    replace B3 := B3.grow (N23.g)
    replace B21 := B21.grow (N23.g)
    try have k2 := k2.grow (N23.g)
    try have k5 := k5.grow (N23.g)
    have B23 := N23.blk
    refine sr_pu rfl (fun _ => rd_build [_, _, _, _, _, _, _, _, _] ze_api_Node rfl pl_api_Node (parts_cons ev_c (parts_cons (ev_t rfl) (parts_nil))) rfl) ?_
    refine sr_alloc rfl ze_api_Node rfl ?_
    intro b4 w4 N4
    have x4_0 := N4.ne B0
    have x4_2 := N4.ne B2
    have x4_16 := N4.ne B16
    have x4_18 := N4.ne B18
    have x4_3 := N4.ne B3
    have x4_21 := N4.ne B21
    have x4_23 := N4.ne B23
    have l4 := N4.ge g
    try have l4_gj2 := N4.ge gj2
    have g := g.trans (N4.g)
    try have gj2 := gj2.trans (N4.g)
    replace B0 := B0.grow (N4.g)
    replace B2 := B2.grow (N4.g)
    replace B16 := B16.grow (N4.g)
    replace B18 := B18.grow (N4.g)
    replace B3 := B3.grow (N4.g)
    replace B21 := B21.grow (N4.g)
    replace B23 := B23.grow (N4.g)
    try have k2 := k2.grow (N4.g)
    try have k5 := k5.grow (N4.g)
    have B4 := N4.blk
    refine sr_store_all rfl sz_api_Node (ev_t rfl) (ev_t rfl) rfl rfl B4 rfl rfl ?_
    intro wS4 hgS4 hzS4
    clear B4
    intro B4
    replace B0 := B0.keep hgS4 (by intro h; injection h with h; first | exact x4_0 h.symm | exact x0_4 h | omega)
    replace B2 := B2.keep hgS4 (by intro h; injection h with h; first | exact x4_2 h.symm | exact x2_4 h | omega)
    replace B16 := B16.keep hgS4 (by intro h; injection h with h; first | exact x4_16 h.symm | exact x16_4 h | omega)
    replace B18 := B18.keep hgS4 (by intro h; injection h with h; first | exact x4_18 h.symm | exact x18_4 h | omega)
    replace B3 := B3.keep hgS4 (by intro h; injection h with h; first | exact x4_3 h.symm | exact x3_4 h | omega)
    replace B21 := B21.keep hgS4 (by intro h; injection h with h; first | exact x4_21 h.symm | exact x21_4 h | omega)
    replace B23 := B23.keep hgS4 (by intro h; injection h with h; first | exact x4_23 h.symm | exact x23_4 h | omega)
    have g := g_only g hgS4 (by intro k hk; injection hk with hk; omega)
    first | replace gj2 := g_only gj2 hgS4 (by intro k hk; injection hk with hk; omega) | clear gj2 | skip
    have k2 := k2.keep hgS4 (fun b hb _ e => by injection e with e; have := l4_gj2; have := hb.2; omega)
    refine sr_sub [(0, _, _), (3, _, _), (4, _, _)] (sub_cons rfl (sub_cons rfl (sub_cons rfl (sub_nil _)))) ?_
    refine sr_nil (hK5 _ _ ?_)
    refine sc_mid (fun (b5 : Nat) => [(0, True, .pointer (some ⟨b0, 0, none⟩)), (5, True, .pointer (some ⟨b5, 0, none⟩))]) (fun (b5 : Nat) u => G w u ∧ b5 ≠ b0 ∧ Blk u b0 ty_api_Node (ndCells nd0 (.slice none 0 0)) ∧ ∃ (b28 : Nat) (vp : Value) (p c : _) , b28 ≠ b0 ∧ b28 ≠ b5 ∧ w.heap.size ≤ b28 ∧ Blk u b5 ty_api_Node (ndCells (fncN bodyN) (.slice (some ⟨b28, 0, none⟩) 3 3)) ∧ Blk u b28 ty_api_Node (ndCells parN vp ++ (ndCells (ndT 7 [98, 111, 111, 108] []) (.slice none 0 0) ++ ndCells bodyN (.slice p bodyN.kids.length c))) ∧ Kd u (fun k => w.heap.size ≤ k ∧ k ≠ b0 ∧ k ≠ b28) parN.kids vp) ?_ ?_
    · refine sc_drawT none [0, 1, 0, 1, 3, 1, 2] [0, 0, 0, 7, 15, 0, 63] mix (by kernel_rfl) [0, 1, 2, 3, 4, 5, 6] rfl ?_
      have g := g.trans (G.drew _)
      try have gj2 := gj2.trans (G.drew _)
      replace B0 := B0.grow (G.drew _)
      replace B2 := B2.grow (G.drew _)
      replace B16 := B16.grow (G.drew _)
      replace B18 := B18.grow (G.drew _)
      replace B3 := B3.grow (G.drew _)
      replace B21 := B21.grow (G.drew _)
      replace B23 := B23.grow (G.drew _)
      replace B4 := B4.grow (G.drew _)
      try have k2 := k2.grow (G.drew _)
      try have k5 := k5.grow (G.drew _)
      refine st_rd (L' := [1, 2, 3, 4, 5, 6]) 0 rfl rfl rfl (fun w1 hx => rd_loads agg_api_Node (ev_t rfl) rfl (fun _ => (B4.keep hx (by intro h; first | (injection h with h; omega) | cases h)).row)) ?_
      refine st_rd (L' := [1, 3, 4, 5, 6]) 2 rfl rfl rfl (fun w1 hx => rd_loads agg_api_Node (ev_t rfl) rfl (fun _ => (B3.keep hx (by intro h; first | (injection h with h; omega) | cases h)).row)) ?_
      refine st_eff2 1 5 rfl rfl ?_ ?_
      · refine ste_of_sr (L' := [3, 4, 5, 6]) [0, 1, 0, 1, 3, 1, 2] rfl rfl rfl ?_
        refine sr_call rfl (rc_call go_l03_typed ev_f (args_cons ev_c (args_nil)) rfl) (ltyped03_ok _ _) ?_
        rintro v26 w26 ⟨rfl, g26⟩
        refine ⟨fun _ => g26, ?_⟩
        have g := g.trans (g26)
        try have gj2 := gj2.trans (g26)
        replace B0 := B0.grow (g26)
        replace B2 := B2.grow (g26)
        replace B16 := B16.grow (g26)
        replace B18 := B18.grow (g26)
        replace B3 := B3.grow (g26)
        replace B21 := B21.grow (g26)
        replace B23 := B23.grow (g26)
        replace B4 := B4.grow (g26)
        try have k2 := k2.grow (g26)
        try have k5 := k5.grow (g26)
        refine sr_nilT ((g26).only _) ?_
        refine st_eff2 3 5 rfl rfl ?_ ?_
        · refine ste_of_sr (L' := [4, 5, 6]) [0, 1, 0, 1, 3, 1, 2] rfl rfl rfl ?_
          refine sr_buildSlice [_, _, _, _, _, _, _, _, _, _, _, _, _, _, _, _, _, _, _, _, _, _, _, _, _, _, _] rfl el_sl_api_Node ze_api_Node (parts_cons (ev_t rfl) (parts_cons (ev_t rfl) (parts_cons (ev_t rfl) (parts_nil)))) rfl rfl ?_
          intro b28 w28 N28
          have x28_0 := N28.ne B0
          have x28_2 := N28.ne B2
          have x28_16 := N28.ne B16
          have x28_18 := N28.ne B18
          have x28_3 := N28.ne B3
          have x28_21 := N28.ne B21
          have x28_23 := N28.ne B23
          have x28_4 := N28.ne B4
          have l28 := N28.ge g
          try have l28_gj2 := N28.ge gj2
          have g := g.trans (N28.g)
          try have gj2 := gj2.trans (N28.g)
          replace B0 := B0.grow (N28.g)
          replace B2 := B2.grow (N28.g)
          replace B16 := B16.grow (N28.g)
          replace B18 := B18.grow (N28.g)
          replace B3 := B3.grow (N28.g)
          replace B21 := B21.grow (N28.g)
          replace B23 := B23.grow (N28.g)
          replace B4 := B4.grow (N28.g)
          try have k2 := k2.grow (N28.g)
          try have k5 := k5.grow (N28.g)
          have B28 := N28.blk
          refine sr_nilT ((N28.g).only _) ?_
          refine st_pu (L' := [5, 6]) 4 rfl rfl rfl (fun _ => rd_build [_, _, _, _, _, _, _, _, _] ze_api_Node rfl pl_api_Node (parts_cons ev_c (parts_cons ev_c (parts_cons (ev_t rfl) (parts_nil)))) rfl) ?_
          refine st_eff1 5 rfl rfl ?_
          refine ste_of_sr (L' := [6]) [0, 1, 0, 1, 3, 1, 2] rfl rfl rfl ?_
          refine sr_alloc rfl ze_api_Node rfl ?_
          intro b5 w5 N5
          have x5_0 := N5.ne B0
          have x5_2 := N5.ne B2
          have x5_16 := N5.ne B16
          have x5_18 := N5.ne B18
          have x5_3 := N5.ne B3
          have x5_21 := N5.ne B21
          have x5_23 := N5.ne B23
          have x5_4 := N5.ne B4
          have x5_28 := N5.ne B28
          have l5 := N5.ge g
          try have l5_gj2 := N5.ge gj2
          have g := g.trans (N5.g)
          try have gj2 := gj2.trans (N5.g)
          replace B0 := B0.grow (N5.g)
          replace B2 := B2.grow (N5.g)
          replace B16 := B16.grow (N5.g)
          replace B18 := B18.grow (N5.g)
          replace B3 := B3.grow (N5.g)
          replace B21 := B21.grow (N5.g)
          replace B23 := B23.grow (N5.g)
          replace B4 := B4.grow (N5.g)
          replace B28 := B28.grow (N5.g)
          try have k2 := k2.grow (N5.g)
          try have k5 := k5.grow (N5.g)
          have B5 := N5.blk
          refine sr_nilT ((N5.g).only _) ?_
          refine st_eff1 6 rfl rfl ?_
          refine ste2_of_sr (L' := []) [0, 1, 0, 1, 3, 1, 2] rfl rfl rfl rfl ?_
          refine sr_store_all rfl sz_api_Node (ev_t rfl) (ev_t rfl) rfl rfl B5 rfl rfl ?_
          intro wS5 hgS5 hzS5
          clear B5
          intro B5
          replace B0 := B0.keep hgS5 (by intro h; injection h with h; first | exact x5_0 h.symm | exact x0_5 h | omega)
          replace B2 := B2.keep hgS5 (by intro h; injection h with h; first | exact x5_2 h.symm | exact x2_5 h | omega)
          replace B16 := B16.keep hgS5 (by intro h; injection h with h; first | exact x5_16 h.symm | exact x16_5 h | omega)
          replace B18 := B18.keep hgS5 (by intro h; injection h with h; first | exact x5_18 h.symm | exact x18_5 h | omega)
          replace B3 := B3.keep hgS5 (by intro h; injection h with h; first | exact x5_3 h.symm | exact x3_5 h | omega)
          replace B21 := B21.keep hgS5 (by intro h; injection h with h; first | exact x5_21 h.symm | exact x21_5 h | omega)
          replace B23 := B23.keep hgS5 (by intro h; injection h with h; first | exact x5_23 h.symm | exact x23_5 h | omega)
          replace B4 := B4.keep hgS5 (by intro h; injection h with h; first | exact x5_4 h.symm | exact x4_5 h | omega)
          replace B28 := B28.keep hgS5 (by intro h; injection h with h; first | exact x5_28 h.symm | exact x28_5 h | omega)
          have g := g_only g hgS5 (by intro k hk; injection hk with hk; omega)
          first | replace gj2 := g_only gj2 hgS5 (by intro k hk; injection hk with hk; omega) | clear gj2 | skip
          have k2 := k2.keep hgS5 (fun b hb _ e => by injection e with e; have := l5_gj2; have := hb.2; omega)
          refine sr_nilT2 ?_
          refine st_sub [(0, _, _), (5, _, _)] (sub_cons rfl (sub_cons rfl (sub_nil _))) ?_
          refine st_nil (fun a ha => ?_)
          exact ⟨b5, ha, g, x5_0, B0, b28, _, _, _, x28_0, (by first | exact x28_5 | exact fun e => x5_28 e.symm), l28, B5, B28, kd_one (t := ndT 3 [97] [ndT 7 [105, 110, 116] []]) (D := fun k => w.heap.size ≤ k ∧ k ≠ b0 ∧ k ≠ b28) ⟨l23, x23_0, fun e => x28_23 e.symm⟩ B23 (kd_one (t := ndT 7 [105, 110, 116] []) (D := fun k => w.heap.size ≤ k ∧ k ≠ b0 ∧ k ≠ b28) ⟨l21, x21_0, fun e => x28_21 e.symm⟩ B21 (kd_nil _ _))⟩
        · refine ste_of_sr (L' := [3, 4, 6]) [0, 1, 0, 1, 3, 1, 2] rfl rfl rfl ?_
          refine sr_alloc rfl ze_api_Node rfl ?_
          intro b5 w5 N5
          have x5_0 := N5.ne B0
          have x5_2 := N5.ne B2
          have x5_16 := N5.ne B16
          have x5_18 := N5.ne B18
          have x5_3 := N5.ne B3
          have x5_21 := N5.ne B21
          have x5_23 := N5.ne B23
          have x5_4 := N5.ne B4
          have l5 := N5.ge g
          try have l5_gj2 := N5.ge gj2
          have g := g.trans (N5.g)
          try have gj2 := gj2.trans (N5.g)
          replace B0 := B0.grow (N5.g)
          replace B2 := B2.grow (N5.g)
          replace B16 := B16.grow (N5.g)
          replace B18 := B18.grow (N5.g)
          replace B3 := B3.grow (N5.g)
          replace B21 := B21.grow (N5.g)
          replace B23 := B23.grow (N5.g)
          replace B4 := B4.grow (N5.g)
          try have k2 := k2.grow (N5.g)
          try have k5 := k5.grow (N5.g)
          have B5 := N5.blk
          refine sr_nilT ((N5.g).only _) ?_
          refine st_eff1 3 rfl rfl ?_
          refine ste_of_sr (L' := [4, 6]) [0, 1, 0, 1, 3, 1, 2] rfl rfl rfl ?_
          refine sr_buildSlice [_, _, _, _, _, _, _, _, _, _, _, _, _, _, _, _, _, _, _, _, _, _, _, _, _, _, _] rfl el_sl_api_Node ze_api_Node (parts_cons (ev_t rfl) (parts_cons (ev_t rfl) (parts_cons (ev_t rfl) (parts_nil)))) rfl rfl ?_
          intro b28 w28 N28
          have x28_0 := N28.ne B0
          have x28_2 := N28.ne B2
          have x28_16 := N28.ne B16
          have x28_18 := N28.ne B18
          have x28_3 := N28.ne B3
          have x28_21 := N28.ne B21
          have x28_23 := N28.ne B23
          have x28_4 := N28.ne B4
          have x28_5 := N28.ne B5
          have l28 := N28.ge g
          try have l28_gj2 := N28.ge gj2
          have g := g.trans (N28.g)
          try have gj2 := gj2.trans (N28.g)
          replace B0 := B0.grow (N28.g)
          replace B2 := B2.grow (N28.g)
          replace B16 := B16.grow (N28.g)
          replace B18 := B18.grow (N28.g)
          replace B3 := B3.grow (N28.g)
          replace B21 := B21.grow (N28.g)
          replace B23 := B23.grow (N28.g)
          replace B4 := B4.grow (N28.g)
          replace B5 := B5.grow (N28.g)
          try have k2 := k2.grow (N28.g)
          try have k5 := k5.grow (N28.g)
          have B28 := N28.blk
          refine sr_nilT ((N28.g).only _) ?_
          refine st_pu (L' := [6]) 4 rfl rfl rfl (fun _ => rd_build [_, _, _, _, _, _, _, _, _] ze_api_Node rfl pl_api_Node (parts_cons ev_c (parts_cons ev_c (parts_cons (ev_t rfl) (parts_nil)))) rfl) ?_
          refine st_eff1 6 rfl rfl ?_
          refine ste2_of_sr (L' := []) [0, 1, 0, 1, 3, 1, 2] rfl rfl rfl rfl ?_
          refine sr_store_all rfl sz_api_Node (ev_t rfl) (ev_t rfl) rfl rfl B5 rfl rfl ?_
          intro wS5 hgS5 hzS5
          clear B5
          intro B5
          replace B0 := B0.keep hgS5 (by intro h; injection h with h; first | exact x5_0 h.symm | exact x0_5 h | omega)
          replace B2 := B2.keep hgS5 (by intro h; injection h with h; first | exact x5_2 h.symm | exact x2_5 h | omega)
          replace B16 := B16.keep hgS5 (by intro h; injection h with h; first | exact x5_16 h.symm | exact x16_5 h | omega)
          replace B18 := B18.keep hgS5 (by intro h; injection h with h; first | exact x5_18 h.symm | exact x18_5 h | omega)
          replace B3 := B3.keep hgS5 (by intro h; injection h with h; first | exact x5_3 h.symm | exact x3_5 h | omega)
          replace B21 := B21.keep hgS5 (by intro h; injection h with h; first | exact x5_21 h.symm | exact x21_5 h | omega)
          replace B23 := B23.keep hgS5 (by intro h; injection h with h; first | exact x5_23 h.symm | exact x23_5 h | omega)
          replace B4 := B4.keep hgS5 (by intro h; injection h with h; first | exact x5_4 h.symm | exact x4_5 h | omega)
          replace B28 := B28.keep hgS5 (by intro h; injection h with h; first | exact x5_28 h.symm | exact x28_5 h | omega)
          have g := g_only g hgS5 (by intro k hk; injection hk with hk; omega)
          first | replace gj2 := g_only gj2 hgS5 (by intro k hk; injection hk with hk; omega) | clear gj2 | skip
          have k2 := k2.keep hgS5 (fun b hb _ e => by injection e with e; have := l5_gj2; have := hb.2; omega)
          refine sr_nilT2 ?_
          refine st_sub [(0, _, _), (5, _, _)] (sub_cons rfl (sub_cons rfl (sub_nil _))) ?_
          refine st_nil (fun a ha => ?_)
          exact ⟨b5, ha, g, x5_0, B0, b28, _, _, _, x28_0, (by first | exact x28_5 | exact fun e => x5_28 e.symm), l28, B5, B28, kd_one (t := ndT 3 [97] [ndT 7 [105, 110, 116] []]) (D := fun k => w.heap.size ≤ k ∧ k ≠ b0 ∧ k ≠ b28) ⟨l23, x23_0, fun e => x28_23 e.symm⟩ B23 (kd_one (t := ndT 7 [105, 110, 116] []) (D := fun k => w.heap.size ≤ k ∧ k ≠ b0 ∧ k ≠ b28) ⟨l21, x21_0, fun e => x28_21 e.symm⟩ B21 (kd_nil _ _))⟩
      · refine ste_of_sr (L' := [1, 3, 4, 6]) [0, 1, 0, 1, 3, 1, 2] rfl rfl rfl ?_
        refine sr_alloc rfl ze_api_Node rfl ?_
        intro b5 w5 N5
        have x5_0 := N5.ne B0
        have x5_2 := N5.ne B2
        have x5_16 := N5.ne B16
        have x5_18 := N5.ne B18
        have x5_3 := N5.ne B3
        have x5_21 := N5.ne B21
        have x5_23 := N5.ne B23
        have x5_4 := N5.ne B4
        have l5 := N5.ge g
        try have l5_gj2 := N5.ge gj2
        have g := g.trans (N5.g)
        try have gj2 := gj2.trans (N5.g)
        replace B0 := B0.grow (N5.g)
        replace B2 := B2.grow (N5.g)
        replace B16 := B16.grow (N5.g)
        replace B18 := B18.grow (N5.g)
        replace B3 := B3.grow (N5.g)
        replace B21 := B21.grow (N5.g)
        replace B23 := B23.grow (N5.g)
        replace B4 := B4.grow (N5.g)
        try have k2 := k2.grow (N5.g)
        try have k5 := k5.grow (N5.g)
        have B5 := N5.blk
        refine sr_nilT ((N5.g).only _) ?_
        refine st_eff1 1 rfl rfl ?_
        refine ste_of_sr (L' := [3, 4, 6]) [0, 1, 0, 1, 3, 1, 2] rfl rfl rfl ?_
        refine sr_call rfl (rc_call go_l03_typed ev_f (args_cons ev_c (args_nil)) rfl) (ltyped03_ok _ _) ?_
        rintro v26 w26 ⟨rfl, g26⟩
        refine ⟨fun _ => g26, ?_⟩
        have g := g.trans (g26)
        try have gj2 := gj2.trans (g26)
        replace B0 := B0.grow (g26)
        replace B2 := B2.grow (g26)
        replace B16 := B16.grow (g26)
        replace B18 := B18.grow (g26)
        replace B3 := B3.grow (g26)
        replace B21 := B21.grow (g26)
        replace B23 := B23.grow (g26)
        replace B4 := B4.grow (g26)
        replace B5 := B5.grow (g26)
        try have k2 := k2.grow (g26)
        try have k5 := k5.grow (g26)
        refine sr_nilT ((g26).only _) ?_
        refine st_eff1 3 rfl rfl ?_
        refine ste_of_sr (L' := [4, 6]) [0, 1, 0, 1, 3, 1, 2] rfl rfl rfl ?_
        refine sr_buildSlice [_, _, _, _, _, _, _, _, _, _, _, _, _, _, _, _, _, _, _, _, _, _, _, _, _, _, _] rfl el_sl_api_Node ze_api_Node (parts_cons (ev_t rfl) (parts_cons (ev_t rfl) (parts_cons (ev_t rfl) (parts_nil)))) rfl rfl ?_
        intro b28 w28 N28
        have x28_0 := N28.ne B0
        have x28_2 := N28.ne B2
        have x28_16 := N28.ne B16
        have x28_18 := N28.ne B18
        have x28_3 := N28.ne B3
        have x28_21 := N28.ne B21
        have x28_23 := N28.ne B23
        have x28_4 := N28.ne B4
        have x28_5 := N28.ne B5
        have l28 := N28.ge g
        try have l28_gj2 := N28.ge gj2
        have g := g.trans (N28.g)
        try have gj2 := gj2.trans (N28.g)
        replace B0 := B0.grow (N28.g)
        replace B2 := B2.grow (N28.g)
        replace B16 := B16.grow (N28.g)
        replace B18 := B18.grow (N28.g)
        replace B3 := B3.grow (N28.g)
        replace B21 := B21.grow (N28.g)
        replace B23 := B23.grow (N28.g)
        replace B4 := B4.grow (N28.g)
        replace B5 := B5.grow (N28.g)
        try have k2 := k2.grow (N28.g)
        try have k5 := k5.grow (N28.g)
        have B28 := N28.blk
        refine sr_nilT ((N28.g).only _) ?_
        refine st_pu (L' := [6]) 4 rfl rfl rfl (fun _ => rd_build [_, _, _, _, _, _, _, _, _] ze_api_Node rfl pl_api_Node (parts_cons ev_c (parts_cons ev_c (parts_cons (ev_t rfl) (parts_nil)))) rfl) ?_
        refine st_eff1 6 rfl rfl ?_
        refine ste2_of_sr (L' := []) [0, 1, 0, 1, 3, 1, 2] rfl rfl rfl rfl ?_
        refine sr_store_all rfl sz_api_Node (ev_t rfl) (ev_t rfl) rfl rfl B5 rfl rfl ?_
        intro wS5 hgS5 hzS5
        clear B5
        intro B5
        replace B0 := B0.keep hgS5 (by intro h; injection h with h; first | exact x5_0 h.symm | exact x0_5 h | omega)
        replace B2 := B2.keep hgS5 (by intro h; injection h with h; first | exact x5_2 h.symm | exact x2_5 h | omega)
        replace B16 := B16.keep hgS5 (by intro h; injection h with h; first | exact x5_16 h.symm | exact x16_5 h | omega)
        replace B18 := B18.keep hgS5 (by intro h; injection h with h; first | exact x5_18 h.symm | exact x18_5 h | omega)
        replace B3 := B3.keep hgS5 (by intro h; injection h with h; first | exact x5_3 h.symm | exact x3_5 h | omega)
        replace B21 := B21.keep hgS5 (by intro h; injection h with h; first | exact x5_21 h.symm | exact x21_5 h | omega)
        replace B23 := B23.keep hgS5 (by intro h; injection h with h; first | exact x5_23 h.symm | exact x23_5 h | omega)
        replace B4 := B4.keep hgS5 (by intro h; injection h with h; first | exact x5_4 h.symm | exact x4_5 h | omega)
        replace B28 := B28.keep hgS5 (by intro h; injection h with h; first | exact x5_28 h.symm | exact x28_5 h | omega)
        have g := g_only g hgS5 (by intro k hk; injection hk with hk; omega)
        first | replace gj2 := g_only gj2 hgS5 (by intro k hk; injection hk with hk; omega) | clear gj2 | skip
        have k2 := k2.keep hgS5 (fun b hb _ e => by injection e with e; have := l5_gj2; have := hb.2; omega)
        refine sr_nilT2 ?_
        refine st_sub [(0, _, _), (5, _, _)] (sub_cons rfl (sub_cons rfl (sub_nil _))) ?_
        refine st_nil (fun a ha => ?_)
        exact ⟨b5, ha, g, x5_0, B0, b28, _, _, _, x28_0, (by first | exact x28_5 | exact fun e => x5_28 e.symm), l28, B5, B28, kd_one (t := ndT 3 [97] [ndT 7 [105, 110, 116] []]) (D := fun k => w.heap.size ≤ k ∧ k ≠ b0 ∧ k ≠ b28) ⟨l23, x23_0, fun e => x28_23 e.symm⟩ B23 (kd_one (t := ndT 7 [105, 110, 116] []) (D := fun k => w.heap.size ≤ k ∧ k ≠ b0 ∧ k ≠ b28) ⟨l21, x21_0, fun e => x28_21 e.symm⟩ B21 (kd_nil _ _))⟩
    · clear k2
      rintro b5 wj5 ⟨g, x5_0, B0, b28, vp, pb5, cb5, x28_0, x28_5, l28, B5, B28, k5⟩
      have gj5 := G.refl wj5
      replace k5 := k5.lt
      refine sc_seq fun K7 hK7 => ?_
      refine sc_text [1, 3, 1, 3, 1, 2] ?_
      refine sr_call rfl (rc_call go_l03_typed ev_f (args_cons ev_c (args_nil)) rfl) (ltyped03_ok _ _) ?_
      rintro v30 w30 ⟨rfl, g30⟩
      refine ⟨fun _ => g30, ?_⟩
      have g := g.trans (g30)
      try have gj5 := gj5.trans (g30)
      replace B0 := B0.grow (g30)
      replace B5 := B5.grow (g30)
      replace B28 := B28.grow (g30)
      try have k2 := k2.grow (g30)
      try have k5 := k5.grow (g30)
      refine sr_pu rfl (fun _ => rd_build [_, _, _, _, _, _, _, _, _] ze_api_Node rfl pl_api_Node (parts_cons ev_c (parts_nil)) rfl) ?_
      refine sr_buildSlice [_, _, _, _, _, _, _, _, _, _, _, _, _, _, _, _, _, _] rfl el_sl_api_Node ze_api_Node (parts_cons (ev_t rfl) (parts_cons (ev_t rfl) (parts_nil))) rfl rfl ?_
      intro b32 w32 N32
      have x32_0 := N32.ne B0
      have x32_5 := N32.ne B5
      have x32_28 := N32.ne B28
      have l32 := N32.ge g
      try have l32_gj5 := N32.ge gj5
      have g := g.trans (N32.g)
      try have gj5 := gj5.trans (N32.g)
      replace B0 := B0.grow (N32.g)
      replace B5 := B5.grow (N32.g)
      replace B28 := B28.grow (N32.g)
      try have k2 := k2.grow (N32.g)
      try have k5 := k5.grow (N32.g)
      have B32 := N32.blk
      refine sr_pu rfl (fun _ => rd_build [_, _, _, _, _, _, _, _, _] ze_api_Node rfl pl_api_Node (parts_cons ev_c (parts_cons ev_c (parts_cons (ev_t rfl) (parts_nil)))) rfl) ?_
      refine sr_alloc rfl ze_api_Node rfl ?_
      intro b6 w6 N6
      have x6_0 := N6.ne B0
      have x6_5 := N6.ne B5
      have x6_28 := N6.ne B28
      have x6_32 := N6.ne B32
      have l6 := N6.ge g
      try have l6_gj5 := N6.ge gj5
      have g := g.trans (N6.g)
      try have gj5 := gj5.trans (N6.g)
      replace B0 := B0.grow (N6.g)
      replace B5 := B5.grow (N6.g)
      replace B28 := B28.grow (N6.g)
      replace B32 := B32.grow (N6.g)
      try have k2 := k2.grow (N6.g)
      try have k5 := k5.grow (N6.g)
      have B6 := N6.blk
      refine sr_store_all rfl sz_api_Node (ev_t rfl) (ev_t rfl) rfl rfl B6 rfl rfl ?_
      intro wS6 hgS6 hzS6
      clear B6
      intro B6
      replace B0 := B0.keep hgS6 (by intro h; injection h with h; first | exact x6_0 h.symm | exact x0_6 h | omega)
      replace B5 := B5.keep hgS6 (by intro h; injection h with h; first | exact x6_5 h.symm | exact x5_6 h | omega)
      replace B28 := B28.keep hgS6 (by intro h; injection h with h; first | exact x6_28 h.symm | exact x28_6 h | omega)
      replace B32 := B32.keep hgS6 (by intro h; injection h with h; first | exact x6_32 h.symm | exact x32_6 h | omega)
      have g := g_only g hgS6 (by intro k hk; injection hk with hk; omega)
      first | replace gj5 := g_only gj5 hgS6 (by intro k hk; injection hk with hk; omega) | clear gj5 | skip
      have k5 := k5.keep hgS6 (fun b hb _ e => by injection e with e; have := l6_gj5; have := hb.2; omega)
      refine sr_sub [(0, _, _), (5, _, _), (6, _, _)] (sub_cons rfl (sub_cons rfl (sub_cons rfl (sub_nil _)))) ?_
      refine sr_nil (hK7 _ _ ?_)
      refine sc_seq fun K8 hK8 => ?_
      refine sc_text [0, 0, 1, 3, 2] ?_
      refine sr_rd rfl (rd_loads agg_api_Node (ev_t rfl) rfl (fun _ => B6.row)) ?_
      refine sr_rd rfl (rd_loads agg_api_Node (ev_t rfl) rfl (fun _ => B5.row)) ?_
      refine sr_buildSlice [_, _, _, _, _, _, _, _, _, _, _, _, _, _, _, _, _, _] rfl el_sl_api_Node ze_api_Node (parts_cons (ev_t rfl) (parts_cons (ev_t rfl) (parts_nil))) rfl rfl ?_
      intro b36 w36 N36
      have x36_0 := N36.ne B0
      have x36_5 := N36.ne B5
      have x36_28 := N36.ne B28
      have x36_32 := N36.ne B32
      have x36_6 := N36.ne B6
      have l36 := N36.ge g
      try have l36_gj5 := N36.ge gj5
      have g := g.trans (N36.g)
      try have gj5 := gj5.trans (N36.g)
      replace B0 := B0.grow (N36.g)
      replace B5 := B5.grow (N36.g)
      replace B28 := B28.grow (N36.g)
      replace B32 := B32.grow (N36.g)
      replace B6 := B6.grow (N36.g)
      try have k2 := k2.grow (N36.g)
      try have k5 := k5.grow (N36.g)
      have B36 := N36.blk
      refine sr_pu rfl (fun _ => rd_build [_, _, _, _, _, _, _, _, _] ze_api_Node rfl pl_api_Node (parts_cons ev_c (parts_cons (ev_t rfl) (parts_nil))) rfl) ?_
      refine sr_store_all rfl sz_api_Node (ev_t rfl) (ev_t rfl) rfl rfl B0 rfl rfl ?_
      intro wS7 hgS7 hzS7
      clear B0
      intro B0
      replace B5 := B5.keep hgS7 (by intro h; injection h with h; first | exact x0_5 h.symm | exact x5_0 h | omega)
      replace B28 := B28.keep hgS7 (by intro h; injection h with h; first | exact x0_28 h.symm | exact x28_0 h | omega)
      replace B32 := B32.keep hgS7 (by intro h; injection h with h; first | exact x0_32 h.symm | exact x32_0 h | omega)
      replace B6 := B6.keep hgS7 (by intro h; injection h with h; first | exact x0_6 h.symm | exact x6_0 h | omega)
      replace B36 := B36.keep hgS7 (by intro h; injection h with h; first | exact x0_36 h.symm | exact x36_0 h | omega)
      have g := g_only g hgS7 (by intro k hk; injection hk with hk; omega)
      first | replace gj5 := g_only gj5 hgS7 (by intro k hk; injection hk with hk; omega) | clear gj5 | skip
      have k5 := k5.keep hgS7 (fun b hb _ e => by injection e with e; exact hb.1.2.1 e)
      refine sr_sub [(0, _, _)] (sub_cons rfl (sub_nil _)) ?_
      refine sr_nil (hK8 _ _ ?_)
      refine sc_ret (t_retv1 rfl (evr_c rfl agg_api_Node rfl (by first | exact B0.row | exact B5.row | exact B28.row | exact B32.row | exact B6.row | exact B36.row) (evr_nil)) ?_)
      have k32 : Kd _ (fun k => w.heap.size ≤ k ∧ k ≠ b28 ∧ k ≠ b36) varN.kids (.slice (some ⟨b32, 0, none⟩) 2 2) := kd_row ⟨l32, x32_28, fun e => x36_32 e.symm⟩ B32.row (krow_cons (t := ndT 7 [105, 110, 116] []) (kd_nil _ _) (krow_one (t := ndT 9 [] []) (kd_nil _ _))) (Nat.le_refl _)
      exact ⟨⟨b36, b28, _, vp, _, rfl, B36, B28, fun e => x36_28 e.symm, l36, l28, k32, k5.mono fun k h _ => ⟨h.1.1, h.1.2.2, fun e => by have := h.2; have := N36.at_; omega⟩⟩, g⟩
end Go.Rk
