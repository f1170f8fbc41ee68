/- Merged texts of one road: FldC. Conditions: each text's own. -/
import Derived.Test.YteicjpedahoilaaGreatDoorA11
set_option linter.unusedSimpArgs false
set_option linter.unusedVariables false
namespace Go.Rk
open Go Go.RowKit
def unN (n pos : Int) : Nd := .mk 31 [45] 0 pos [.mk 24 [] n pos [] ty0 0 0] ty0 0 0
def replT (c : Cst) (pos : Int) : Nd × Bool :=
  bif c.1 then (.mk 25 [] c.2 pos [] ty0 0 0, true)
  else bif decide (0 ≤ c.2) then (.mk 24 [] c.2 pos [] ty0 0 0, true)
  else bif !decide (c.2 = -9223372036854775808) then (unN (IntKind.i64.wrap (0 - c.2)) pos, true)
  else (nd0, false)
theorem retNd_leaf (t : Nd) (base : Nat) (w : World) (h : t.kids = []) : RetNd t base (ndV t (.slice none 0 0)) w := by
  refine ⟨none, 0, by rw [h]; rfl, ?_⟩
  rw [h]; exact kd_nil _ _
theorem replace_ok (c : Cst) (pos : Int) (w : World) : Ret PP fn_fold_replace #[conV c, .int .i64 pos] w fun r w' => (∃ v, r = .tuple #[v, .bool (replT c pos).2] ∧ RetNd (replT c pos).1 w.heap.size v w') ∧ G w w' := by
  have g := G.refl w
  refine ret_of_sc (m := 34) func_fold_replace rfl rfl [(0, True, _), (1, True, _)] (sub_cons rfl (sub_cons rfl (sub_nil _))) ?_
  refine sc_seq fun K1 hK1 => ?_
  refine sc_text [1, 1, 3] ?_
  refine sr_box rfl (ev_t rfl) rfl ?_
  intro b2 w2 N2
  have l2 := N2.ge g
  have g := g.trans (N2.g)
  have B2 := N2.blk
  refine sr_alloc rfl ze_api_Node rfl ?_
  intro b4 w4 N4
  have x4_2 := N4.ne B2
  have l4 := N4.ge g
  have g := g.trans (N4.g)
  replace B2 := B2.grow (N4.g)
  have B4 := N4.blk
  refine sr_pu rfl (fun _ => rd_assign ev_c) ?_
  refine sr_sub [(1, _, _), (2, _, _), (4, _, _), (5, _, _)] (sub_cons rfl (sub_cons rfl (sub_cons rfl (sub_cons rfl (sub_nil _))))) ?_
  refine sr_nil (hK1 _ _ ?_)
  refine sc_seq fun K2 hK2 => ?_
  refine sc_block ?_
  refine sc_seq fun K3 hK3 => ?_
  refine sc_text [3, 0, 3] ?_
  refine sr_pu rfl (fun _ => rd_field fo_fold_constant_0 (ev_t rfl)) ?_
  refine sr_rd rfl (rd_load one_bool (ev_t rfl) (fun _ => B2.at_ rfl)) ?_
  refine sr_pu rfl (fun _ => rd_assign (ev_t rfl)) ?_
  refine sr_sub [(1, _, _), (2, _, _), (4, _, _), (5, _, _), (6, _, _)] (sub_cons rfl (sub_cons rfl (sub_cons rfl (sub_cons rfl (sub_cons rfl (sub_nil _)))))) ?_
  refine sr_nil (hK3 _ _ ?_)
  refine sc_cond (ev_t rfl) (fun h1 => ?_) (fun h1 => ?_)
  · (try simp only [bsimp] at h1)
    refine sc_seq fun K4 hK4 => ?_
    refine sc_text [3, 0, 3, 3, 2, 3] ?_
    refine sr_pu rfl (fun _ => rd_field fo_fold_constant_1 (ev_t rfl)) ?_
    refine sr_rd rfl (rd_load one_int (ev_t rfl) (fun _ => B2.at_ rfl)) ?_
    refine sr_pu rfl (fun _ => rd_move (ev_t rfl)) ?_
    refine sr_pu rfl (fun _ => rd_build [_, _, _, _, _, _, _, _, _] ze_api_Node rfl pl_api_Node (parts_cons ev_c (parts_cons (ev_t rfl) (parts_cons (ev_t rfl) (parts_nil)))) rfl) ?_
    refine sr_store_all rfl sz_api_Node (ev_t rfl) (ev_t rfl) rfl rfl B4 rfl rfl ?_
    intro wS1 hgS1 hzS1
    clear B4
    intro B4
    replace B2 := B2.keep hgS1 (by intro h; injection h with h; first | exact x4_2 h.symm | exact x2_4 h | omega)
    have g := g_only g hgS1 (by intro k hk; injection hk with hk; omega)
    refine sr_pu rfl (fun _ => rd_assign ev_c) ?_
    refine sr_sub [(4, _, _), (5, _, _)] (sub_cons rfl (sub_cons rfl (sub_nil _))) ?_
    refine sr_nil (hK4 _ _ ?_)
    refine sc_ret (t_retv (rs := [.cell 4 26, .tmp 5]) (vs := [_, _]) rfl rfl (evr_c rfl agg_api_Node rfl (by first | exact B2.row | exact B4.row) (evr_t rfl (evr_nil))) rfl ?_)
    refine ⟨⟨_, by unfold replT; simp only [h1, cond_true]; rfl, by unfold replT; simp only [h1, cond_true]; exact retNd_leaf _ _ _ rfl⟩, g⟩
  (try simp only [bsimp] at h1)
  refine sc_seq fun K5 hK5 => ?_
  refine sc_text [3, 0, 3, 3] ?_
  refine sr_pu rfl (fun _ => rd_field fo_fold_constant_1 (ev_t rfl)) ?_
  refine sr_rd rfl (rd_load one_int (ev_t rfl) (fun _ => B2.at_ rfl)) ?_
  refine sr_pu rfl (fun _ => rd_ge (ev_t rfl) ev_c) ?_
  refine sr_pu rfl (fun _ => rd_assign (ev_t rfl)) ?_
  refine sr_sub [(1, _, _), (2, _, _), (4, _, _), (5, _, _), (13, _, _)] (sub_cons rfl (sub_cons rfl (sub_cons rfl (sub_cons rfl (sub_cons rfl (sub_nil _)))))) ?_
  refine sr_nil (hK5 _ _ ?_)
  refine sc_cond (ev_t rfl) (fun h2 => ?_) (fun h2 => ?_)
  · (try simp only [bsimp] at h2)
    refine sc_seq fun K6 hK6 => ?_
    refine sc_text [3, 0, 3, 3, 2, 3] ?_
    refine sr_pu rfl (fun _ => rd_field fo_fold_constant_1 (ev_t rfl)) ?_
    refine sr_rd rfl (rd_load one_int (ev_t rfl) (fun _ => B2.at_ rfl)) ?_
    refine sr_pu rfl (fun _ => rd_move (ev_t rfl)) ?_
    refine sr_pu rfl (fun _ => rd_build [_, _, _, _, _, _, _, _, _] ze_api_Node rfl pl_api_Node (parts_cons ev_c (parts_cons (ev_t rfl) (parts_cons (ev_t rfl) (parts_nil)))) rfl) ?_
    refine sr_store_all rfl sz_api_Node (ev_t rfl) (ev_t rfl) rfl rfl B4 rfl rfl ?_
    intro wS2 hgS2 hzS2
    clear B4
    intro B4
    replace B2 := B2.keep hgS2 (by intro h; injection h with h; first | exact x4_2 h.symm | exact x2_4 h | omega)
    have g := g_only g hgS2 (by intro k hk; injection hk with hk; omega)
    refine sr_pu rfl (fun _ => rd_assign ev_c) ?_
    refine sr_sub [(4, _, _), (5, _, _)] (sub_cons rfl (sub_cons rfl (sub_nil _))) ?_
    refine sr_nil (hK6 _ _ ?_)
    refine sc_ret (t_retv (rs := [.cell 4 26, .tmp 5]) (vs := [_, _]) rfl rfl (evr_c rfl agg_api_Node rfl (by first | exact B2.row | exact B4.row) (evr_t rfl (evr_nil))) rfl ?_)
    refine ⟨⟨_, by unfold replT; simp only [h1, h2, cond_true, cond_false]; rfl, by unfold replT; simp only [h1, h2, cond_true, cond_false]; exact retNd_leaf _ _ _ rfl⟩, g⟩
  (try simp only [bsimp] at h2)
  refine sc_seq fun K7 hK7 => ?_
  refine sc_text [3, 0, 3, 3] ?_
  refine sr_pu rfl (fun _ => rd_field fo_fold_constant_1 (ev_t rfl)) ?_
  refine sr_rd rfl (rd_load one_int (ev_t rfl) (fun _ => B2.at_ rfl)) ?_
  refine sr_pu rfl (fun _ => rd_ne (ev_t rfl) ev_c) ?_
  refine sr_pu rfl (fun _ => rd_assign (ev_t rfl)) ?_
  refine sr_sub [(1, _, _), (2, _, _), (4, _, _), (5, _, _), (21, _, _)] (sub_cons rfl (sub_cons rfl (sub_cons rfl (sub_cons rfl (sub_cons rfl (sub_nil _)))))) ?_
  refine sr_nil (hK7 _ _ ?_)
  refine sc_cond (ev_t rfl) (fun h3 => ?_) (fun h3 => ?_)
  · (try simp only [bsimp] at h3)
    refine sc_seq fun K8 hK8 => ?_
    refine sc_text [3, 3, 0, 3, 3, 3, 1, 3, 2, 3] ?_
    refine sr_pu rfl (fun _ => rd_move (ev_t rfl)) ?_
    refine sr_pu rfl (fun _ => rd_field fo_fold_constant_1 (ev_t rfl)) ?_
    refine sr_rd rfl (rd_load one_int (ev_t rfl) (fun _ => B2.at_ rfl)) ?_
    refine sr_pu rfl (fun _ => rd_negw (ev_t rfl)) ?_
    refine sr_pu rfl (fun _ => rd_move (ev_t rfl)) ?_
    refine sr_pu rfl (fun _ => rd_build [_, _, _, _, _, _, _, _, _] ze_api_Node rfl pl_api_Node (parts_cons ev_c (parts_cons (ev_t rfl) (parts_cons (ev_t rfl) (parts_nil)))) rfl) ?_
    refine sr_buildSlice [_, _, _, _, _, _, _, _, _] rfl el_sl_api_Node ze_api_Node (parts_cons (ev_t rfl) (parts_nil)) rfl rfl ?_
    intro b31 w31 N31
    have x31_2 := N31.ne B2
    have x31_4 := N31.ne B4
    have l31 := N31.ge g
    have g := g.trans (N31.g)
    replace B2 := B2.grow (N31.g)
    replace B4 := B4.grow (N31.g)
    have B31 := N31.blk
    refine sr_pu rfl (fun _ => rd_build [_, _, _, _, _, _, _, _, _] ze_api_Node rfl pl_api_Node (parts_cons ev_c (parts_cons ev_c (parts_cons (ev_t rfl) (parts_cons (ev_t rfl) (parts_nil))))) rfl) ?_
    refine sr_store_all rfl sz_api_Node (ev_t rfl) (ev_t rfl) rfl rfl B4 rfl rfl ?_
    intro wS3 hgS3 hzS3
    clear B4
    intro B4
    replace B2 := B2.keep hgS3 (by intro h; injection h with h; first | exact x4_2 h.symm | exact x2_4 h | omega)
    replace B31 := B31.keep hgS3 (by intro h; injection h with h; first | exact x4_31 h.symm | exact x31_4 h | omega)
    have g := g_only g hgS3 (by intro k hk; injection hk with hk; omega)
    refine sr_pu rfl (fun _ => rd_assign ev_c) ?_
    refine sr_sub [(4, _, _), (5, _, _)] (sub_cons rfl (sub_cons rfl (sub_nil _))) ?_
    refine sr_nil (hK8 _ _ ?_)
    refine sc_ret (t_retv (rs := [.cell 4 26, .tmp 5]) (vs := [_, _]) rfl rfl (evr_c rfl agg_api_Node rfl (by first | exact B2.row | exact B4.row | exact B31.row) (evr_t rfl (evr_nil))) rfl ?_)
    refine ⟨⟨_, by unfold replT; simp only [h1, h2, h3, cond_true, cond_false]; rfl, ?_⟩, g⟩
    unfold replT; simp only [h1, h2, h3, cond_true, cond_false]
    exact ⟨_, _, rfl, kd_row (by omega) B31.row (krow_one (t := .mk 24 [] (IntKind.i64.wrap (0 - c.2)) pos [] ty0 0 0) (kd_nil _ _)) (Nat.le_refl _)⟩
  (try simp only [bsimp] at h3)
  refine sc_skip (hK2 _ _ ?_)
  refine sc_sub [(4, _, _), (5, _, _)] (sub_cons rfl (sub_cons rfl (sub_nil _))) ?_
  refine sc_seq fun K9 hK9 => ?_
  refine sc_text [3, 2, 3] ?_
  refine sr_pu rfl (fun _ => rd_build [_, _, _, _, _, _, _, _, _] ze_api_Node rfl pl_api_Node (parts_nil) rfl) ?_
  refine sr_store_all rfl sz_api_Node (ev_t rfl) (ev_t rfl) rfl rfl B4 rfl rfl ?_
  intro wS4 hgS4 hzS4
  clear B4
  intro B4
  replace B2 := B2.keep hgS4 (by intro h; injection h with h; first | exact x4_2 h.symm | exact x2_4 h | omega)
  have g := g_only g hgS4 (by intro k hk; injection hk with hk; omega)
  refine sr_pu rfl (fun _ => rd_assign ev_c) ?_
  refine sr_nil (hK9 _ _ ?_)
  refine sc_ret (t_retv (rs := [.cell 4 26, .tmp 5]) (vs := [_, _]) rfl rfl (evr_c rfl agg_api_Node rfl (by first | exact B2.row | exact B4.row) (evr_t rfl (evr_nil))) rfl ?_)
  refine ⟨⟨_, by unfold replT; simp only [h1, h2, h3, cond_true, cond_false]; rfl, by unfold replT; simp only [h1, h2, h3, cond_true, cond_false]; exact retNd_leaf _ _ _ rfl⟩, g⟩
def foldF (t : Nd) (l : List Nd) : Nd :=
  bif (valC t).2 && (replT (valC t).1 t.pos).2 then (replT (valC t).1 t.pos).1
  else bif decide (t.kind = 18) && (valC (kidAt t 0)).2 then
    bif decide ((valC (kidAt t 0)).1.2 = 1) then l.getD 1 nd0
    else bif decide ((kidAt t 2).kind = 9) then .mk 10 [] 0 t.pos [] ty0 0 0
    else l.getD 2 nd0
  else .mk t.kind t.text (bif decide (t.kind = 24) || decide (t.kind = 25) then t.num else 0) t.pos l ty0 0 0
def foldT (t : Nd) : Nd := para foldF t
theorem foldT_eq (t : Nd) : foldT t = foldF t (t.kids.map foldT) := para_eq foldF t
def EachOk (l : List Nd) : Prop := ∀ k ∈ l, ∀ (v : Value) (D : Nat → Prop) (w : World), Kd w D k.kids v → Ret PP fn_fold_fold #[ndV k v] w fun r w' => RetNd (foldT k) w.heap.size r w' ∧ G w w'
theorem each_ok (l : List Nd) (p : Option Addr) (c : Nat) (D : Nat → Prop) (w : World) (hk : Kd w D l (.slice p l.length c)) (hf : EachOk l) (hln : l.length ≤ 1000000) : Ret PP fn_fold_each_api_Node #[.slice p l.length c, .func (.func fn_fold_fold) #[] #[]] w fun r w' => (∃ p c, r = .slice p (l.map foldT).length c ∧ Kd w' (fun b => w.heap.size ≤ b) (l.map foldT) (.slice p (l.map foldT).length c)) ∧ G w w' := by
  have g := G.refl w
  obtain ⟨p', c', hpe, _, hks⟩ := hk
  injection hpe with hpe _ hce
  subst hpe hce
  refine ret_of_sc (m := 22) func_fold_each_api_Node rfl rfl [(0, True, _), (1, True, _)] (sub_cons rfl (sub_cons rfl (sub_nil _))) ?_
  refine sc_seq fun K1 hK1 => ?_
  refine sc_text [3] ?_
  refine sr_pu rfl (fun _ => rd_assign ev_c) ?_
  refine sr_nil (hK1 _ _ ?_)
  refine sc_seq fun K2 hK2 => ?_
  refine sc_text [3] ?_
  refine sr_pu rfl (fun _ => rd_assign ev_c) ?_
  refine sr_nil (hK2 _ _ ?_)
  refine sc_seq fun K3 hK3 => ?_
  refine sc_seq fun K4 hK4 => ?_
  refine sc_text [3, 3, 3] ?_
  refine sr_pu rfl (fun _ => rd_move (ev_t rfl)) ?_
  refine sr_pu rfl (fun _ => rd_len el_sl_api_Node (ev_t rfl)) ?_
  refine sr_pu rfl (fun _ => rd_move ev_c) ?_
  refine sr_sub [(1, _, _), (4, _, _), (5, _, _), (8, _, _), (9, _, _), (10, _, _)] (sub_cons rfl (sub_cons rfl (sub_cons rfl (sub_cons rfl (sub_cons rfl (sub_cons rfl (sub_nil _))))))) ?_
  refine sr_nil (hK4 _ _ ?_)
  refine sc_block ?_
  refine sc_loop3 (fun (x : Nat × Option Addr × Nat) u1 => match x with | ⟨i, a, ca⟩ => (i ≤ l.length ∧ OwnK ty_api_Node (fun b => w.heap.size ≤ b) w.heap.size u1 ((l.take i).map foldT) (.slice a ((l.take i).map foldT).length ca)) ∧ G w u1) _ [(1, True, _), (4, True, _), (8, True, _), (9, True, _)] (fun (x : Nat × Option Addr × Nat) => match x with | ⟨i, a, ca⟩ => [(5, True, .slice a ((l.take i).map foldT).length ca), (10, True, .int .i64 i)]) (fun (x : Nat × Option Addr × Nat) => match x with | ⟨i, a, ca⟩ => l.length - i) ((0, none, 0)) ⟨⟨Nat.zero_le _, ownK_nil _ _ _ _⟩, g⟩ (nilE_mk _) (sub_cons rfl (sub_cons rfl (sub_cons rfl (sub_cons rfl (sub_cons rfl (sub_cons rfl (sub_nil _))))))) ?_
  rintro ⟨i, a, ca⟩ u1 ⟨hI1, gl1⟩ _
  have g := gl1
  obtain ⟨hi, hO⟩ := hI1
  refine sc_seq fun K5 hK5 => ?_
  refine sc_text [3] ?_
  refine sr_pu rfl (fun _ => rd_lt (ev_t rfl) (ev_t rfl)) ?_
  refine sr_nil (hK5 _ _ ?_)
  refine sc_sub [(1, _, _), (4, _, _), (5, _, _), (8, _, _), (9, _, _), (10, _, _), (11, _, _)] (sub_cons rfl (sub_cons rfl (sub_cons rfl (sub_cons rfl (sub_cons rfl (sub_cons rfl (sub_cons rfl (sub_nil _)))))))) ?_
  refine sc_seq fun K6 hK6 => ?_
  refine sc_cond (ev_t rfl) (fun h1 => ?_) (fun h1 => ?_)
  · replace h1 : i < l.length := by simp only [decide_eq_true_eq] at h1; omega
    obtain ⟨b, o, rfl, hD, xs, hR, hX⟩ := hks (by omega)
    obtain ⟨p', c', hcell, hkid⟩ := kd_at hR hX h1
    have hu := g.size
    have hOlt := hO.lt
    have hO := hO.low
    refine sc_skip (hK6 _ _ ?_)
    refine sc_sub [(1, _, _), (4, _, _), (5, _, _), (8, _, _), (9, _, _), (10, _, _)] (sub_cons rfl (sub_cons rfl (sub_cons rfl (sub_cons rfl (sub_cons rfl (sub_cons rfl (sub_nil _))))))) ?_
    refine sc_seq fun K7 hK7 => ?_
    refine sc_block ?_
    refine sc_seq fun K8 hK8 => ?_
    refine sc_text [3, 0, 1, 2] ?_
    refine sr_pu rfl (fun _ => rd_idx el_sl_api_Node (ev_t rfl) (ev_t rfl) (fun _ => by omega)) ?_
    refine sr_rd rfl (rd_loads agg_api_Node (ev_t rfl) rfl (fun _ => hcell.grow g)) ?_
    refine sr_alloc rfl ze_api_Node rfl ?_
    intro b7 w7 N7
    have l7 := N7.ge g
    have g := g.trans (N7.g)
    try have hO := hO.grow (N7.g)
    have B7 := N7.blk
    refine sr_store_all rfl sz_api_Node (ev_t rfl) (ev_t rfl) rfl rfl B7 rfl rfl ?_
    intro wS1 hgS1 hzS1
    clear B7
    intro B7
    have g := g_only g hgS1 (by intro k hk; injection hk with hk; omega)
    have hu7 := N7.g.size
    have hO := (hO.keep hgS1 (by have := N7.ge (G.refl _); omega)).mono fun b h => h.1
    refine sr_sub [(1, _, _), (4, _, _), (5, _, _), (7, _, _), (8, _, _), (9, _, _), (10, _, _)] (sub_cons rfl (sub_cons rfl (sub_cons rfl (sub_cons rfl (sub_cons rfl (sub_cons rfl (sub_cons rfl (sub_nil _)))))))) ?_
    refine sr_nil (hK8 _ _ ?_)
    refine sc_text [3, 3, 0, 1, 1, 2, 3] ?_
    refine sr_pu rfl (fun _ => rd_move (ev_t rfl)) ?_
    refine sr_pu rfl (fun _ => rd_move (ev_t rfl)) ?_
    refine sr_rd rfl (rd_loads agg_api_Node (ev_t rfl) rfl (fun _ => B7.row)) ?_
    refine sr_call rfl (rc_call go_fold_fold (ev_t rfl) (args_cons (ev_t rfl) (args_nil)) rfl) (hf _ (List.getElem_mem h1) _ D _ (hkid.grow g)) ?_
    rintro v17 w17 ⟨⟨p2, c2, rfl, hk2⟩, g17⟩
    refine ⟨fun _ => g17, ?_⟩
    have g := g.trans g17
    replace B7 := B7.grow (g17)
    try have hO := hO.grow (g17)
    refine sr_buildSlice [_, _, _, _, _, _, _, _, _] rfl el_sl_api_Node ze_api_Node (parts_cons (ev_t rfl) (parts_nil)) rfl rfl ?_
    intro b18 w18 N18
    have x18_7 := N18.ne B7
    have l18 := N18.ge g
    have g := g.trans (N18.g)
    replace B7 := B7.grow (N18.g)
    try have hO := hO.grow (N18.g)
    have B18 := N18.blk
    have hk2 := hk2.grow N18.g
    have hOo := hO
    refine sr_appendK rfl el_sl_api_Node ze_api_Node rfl (ev_t rfl) hO (ev_t rfl) rfl B18.row (krow_one (hk2.mono fun k hk _ => ⟨by omega, fun he => by have := hOlt k he.symm; omega⟩)) (by simp; omega) (by have := g.size; omega) (by have := g.size; omega) ?_
    intro a19 c19 w19 hO hg19
    have g := g_only g hg19 (fun k hk => hOo.ge k hk)
    refine sr_pu rfl (fun _ => rd_assign (ev_t rfl)) ?_
    refine sr_sub [(1, _, _), (4, _, _), (5, _, _), (8, _, _), (9, _, _), (10, _, _)] (sub_cons rfl (sub_cons rfl (sub_cons rfl (sub_cons rfl (sub_cons rfl (sub_cons rfl (sub_nil _))))))) ?_
    refine sr_nil (hK7 _ _ ?_)
    refine sc_text [3, 3] ?_
    refine sr_pu rfl (fun _ => rd_add (ev_t rfl) ev_c (fun _ => by omega)) ?_
    refine sr_pu rfl (fun _ => rd_move (ev_t rfl)) ?_
    refine sr_sub [(5, _, _), (10, _, _), (1, _, _), (4, _, _), (8, _, _), (9, _, _)] (sub_cons rfl (sub_cons rfl (sub_cons rfl (sub_cons rfl (sub_cons rfl (sub_cons rfl (sub_nil _))))))) ?_
    refine sr_nil (fun a ha => ?_)
    rw [← take_succ_map foldT l i h1] at ha hO
    exact ⟨(i + 1, a19, c19), ha, ⟨⟨h1, hO⟩, g⟩, (nilE_mk _), by show l.length - (i + 1) < l.length - i; omega⟩
  replace h1 : i = l.length := by simp only [decide_eq_false_iff_not] at h1; omega
  subst h1
  rw [List.take_length] at hO
  refine sc_exit rfl (hK3 _ _ ?_)
  refine sc_sub [(4, _, _), (5, _, _)] (sub_cons rfl (sub_cons rfl (sub_nil _))) ?_
  refine sc_seq fun K9 hK9 => ?_
  refine sc_text [3, 3] ?_
  refine sr_pu rfl (fun _ => rd_move (ev_t rfl)) ?_
  refine sr_pu rfl (fun _ => rd_assign (ev_t rfl)) ?_
  refine sr_nil (hK9 _ _ ?_)
  refine sc_ret (t_ret1 rfl rfl ?_)
  rw [List.take_length]; exact ⟨⟨_, _, rfl, hO.kd fun b hb => hb⟩, g⟩
theorem RetNd.mono {t : Nd} {b b' : Nat} {v : Value} {w w' : World} (h : RetNd t b v w) (hb : b' ≤ b) (g : G w w') : RetNd t b' v w' := by
  obtain ⟨p, c, rfl, hk⟩ := h
  exact ⟨p, c, rfl, (hk.mono fun k hk _ => Nat.le_trans hb hk).grow g⟩
theorem perm_18 {t : Nd} (h : t.kind = 18) (hp : permF t = true) : t.kids.length = 3 := by
  rw [permF_eq, locB, Bool.and_eq_true, Bool.and_eq_true, formB, h] at hp
  have hf : kidsB t [expK, memK [10], memK [10, 18, 9]] = true := hp.1.2
  rw [kidsB, Bool.and_eq_true, decide_eq_true_eq] at hf; exact hf.1
theorem perm_kid {t k : Nd} (hp : permF t = true) (hk : k ∈ t.kids) : permF k = true := by
  rw [permF_eq, Bool.and_eq_true, List.all_eq_true] at hp; exact hp.2 k hk
theorem getD_fold {t : Nd} {i : Nat} (h : i < t.kids.length) : (t.kids.map foldT).getD i nd0 = foldT (kidAt t i) := by
  rw [kidAt_eq h]; simp [List.getD_eq_getElem?_getD, List.getElem?_eq_getElem h]
set_option maxHeartbeats 4000000 in
theorem ffold_ok : ∀ (t : Nd), permF t = true → count t ≤ 1000000 → ∀ (v : Value) (D : Nat → Prop) (w : World), Kd w D t.kids v → Ret PP fn_fold_fold #[ndV t v] w fun r w' => RetNd (foldT t) w.heap.size r w' ∧ G w w' := by
  refine Nd.ind fun t ih hp hcn v D w hk => ?_
  obtain ⟨p, c, rfl, hcap, hks⟩ := hk
  have hk0 : Kd w D t.kids (.slice p t.kids.length c) := ⟨p, c, rfl, hcap, hks⟩
  have g := G.refl w
  have hln := kids_le t
  have hf : EachOk t.kids := fun k hk v D w hkd => ih k hk (perm_kid hp hk) (by have := count_mem hk; omega) v D w hkd
  have hl18 : t.kind = 18 → t.kids.length = 3 := fun h => perm_18 h hp
  have hfi : ∀ i, i < t.kids.length → ∀ (v : Value) (D : Nat → Prop) (w : World), Kd w D (kidAt t i).kids v → Ret PP fn_fold_fold #[ndV (kidAt t i) v] w fun r w' => RetNd (foldT (kidAt t i)) w.heap.size r w' ∧ G w w' := fun i h => hf _ (by rw [kidAt_eq h]; exact List.getElem_mem h)
  obtain ⟨p0, c0, h0x⟩ := kd_optx hk0 0
  obtain ⟨p1, c1, h1x⟩ := kd_optx hk0 1
  obtain ⟨p2, c2, h2x⟩ := kd_optx hk0 2
  refine ret_of_sc (m := 83) func_fold_fold rfl rfl [(0, True, _)] (sub_cons rfl (sub_nil _)) ?_
  refine sc_seq fun K1 hK1 => ?_
  refine sc_text [1, 1] ?_
  refine sr_box rfl (ev_t rfl) rfl ?_
  intro b1 w1 N1
  have l1 := N1.ge g
  have g := g.trans (N1.g)
  try have hk5 := hk5.grow (N1.g)
  have B1 := N1.blk
  refine sr_alloc rfl ze_api_Node rfl ?_
  intro b2 w2 N2
  have x2_1 := N2.ne B1
  have l2 := N2.ge g
  have g := g.trans (N2.g)
  replace B1 := B1.grow (N2.g)
  try have hk5 := hk5.grow (N2.g)
  have B2 := N2.blk
  refine sr_sub [(1, _, _), (2, _, _)] (sub_cons rfl (sub_cons rfl (sub_nil _))) ?_
  refine sr_nil (hK1 _ _ ?_)
  refine sc_seq fun K2 hK2 => ?_
  refine sc_seq fun K3 hK3 => ?_
  refine sc_text [0, 1, 3, 3, 3, 1, 2, 3] ?_
  refine sr_rd rfl (rd_loads agg_api_Node (ev_t rfl) rfl (fun _ => B1.row)) ?_
  refine sr_pure rfl (rc_call go_fold_value ev_f (args_cons (ev_t rfl) (args_nil)) rfl) (fvalue_ok t _ D _ (hk0.grow g)) (fun w12 g12 => ?_)
  have g := g.trans (g12)
  replace B1 := B1.grow (g12)
  replace B2 := B2.grow (g12)
  try have hk5 := hk5.grow (g12)
  refine sr_pu rfl (fun _ => rd_move (ev_t rfl)) ?_
  refine sr_pu rfl (fun _ => rd_extract (ev_t rfl) rfl) ?_
  refine sr_pu rfl (fun _ => rd_extract (ev_t rfl) rfl) ?_
  refine sr_alloc rfl ze_fold_constant rfl ?_
  intro b3 w3 N3
  have x3_1 := N3.ne B1
  have x3_2 := N3.ne B2
  have l3 := N3.ge g
  have g := g.trans (N3.g)
  replace B1 := B1.grow (N3.g)
  replace B2 := B2.grow (N3.g)
  try have hk5 := hk5.grow (N3.g)
  have B3 := N3.blk
  refine sr_store_all rfl sz_fold_constant (ev_t rfl) (ev_t rfl) rfl rfl B3 rfl rfl ?_
  intro wS1 hgS1 hzS1
  clear B3
  intro B3
  replace B1 := B1.keep hgS1 (by intro h; injection h with h; first | exact x3_1 h.symm | exact x1_3 h | omega)
  replace B2 := B2.keep hgS1 (by intro h; injection h with h; first | exact x3_2 h.symm | exact x2_3 h | omega)
  have g := g_only g hgS1 (by intro k hk; injection hk with hk; omega)
  refine sr_pu rfl (fun _ => rd_assign (ev_t rfl)) ?_
  refine sr_sub [(1, _, _), (2, _, _), (3, _, _), (4, _, _)] (sub_cons rfl (sub_cons rfl (sub_cons rfl (sub_cons rfl (sub_nil _))))) ?_
  refine sr_nil (hK3 _ _ ?_)
  refine sc_seq fun K4 hK4 => ?_
  refine sc_text [3] ?_
  refine sr_pu rfl (fun _ => rd_move (ev_t rfl)) ?_
  refine sr_sub [(1, _, _), (2, _, _), (3, _, _), (15, _, _)] (sub_cons rfl (sub_cons rfl (sub_cons rfl (sub_cons rfl (sub_nil _))))) ?_
  refine sr_nil (hK4 _ _ ?_)
  refine sc_cond (ev_t rfl) (fun h1 => ?_) (fun h1 => ?_)
  · (try simp only [bsimp] at h1)
    refine sc_seq fun K5 hK5 => ?_
    refine sc_text [0, 3, 0, 1, 3, 3, 3, 1, 2, 3] ?_
    refine sr_rd rfl (rd_loads agg_fold_constant (ev_t rfl) rfl (fun _ => B3.row)) ?_
    refine sr_pu rfl (fun _ => rd_field fo_api_Node_3 (ev_t rfl)) ?_
    refine sr_rd rfl (rd_load one_int (ev_t rfl) (fun _ => B1.at_ rfl)) ?_
    refine sr_call rfl (rc_call go_fold_replace ev_f (args_cons (ev_t rfl) (args_cons (ev_t rfl) (args_nil))) rfl) (replace_ok _ _ _) ?_
    rintro v20 w20 ⟨⟨u20, rfl, p5, c5, rfl, hk5⟩, g20⟩
    refine ⟨fun _ => g20, ?_⟩
    have hlow := g.size
    have hB2 := B2.lt
    have g := g.trans g20
    have hk5 := hk5.lt
    replace B1 := B1.grow (g20)
    replace B2 := B2.grow (g20)
    replace B3 := B3.grow (g20)
    try have hk5 := hk5.grow (g20)
    refine sr_pu rfl (fun _ => rd_move (ev_t rfl)) ?_
    refine sr_pu rfl (fun _ => rd_extract (ev_t rfl) rfl) ?_
    refine sr_pu rfl (fun _ => rd_extract (ev_t rfl) rfl) ?_
    refine sr_alloc rfl ze_api_Node rfl ?_
    intro b5 w5 N5
    have x5_1 := N5.ne B1
    have x5_2 := N5.ne B2
    have x5_3 := N5.ne B3
    have l5 := N5.ge g
    have g := g.trans (N5.g)
    replace B1 := B1.grow (N5.g)
    replace B2 := B2.grow (N5.g)
    replace B3 := B3.grow (N5.g)
    try have hk5 := hk5.grow (N5.g)
    have B5 := N5.blk
    refine sr_store_all rfl sz_api_Node (ev_t rfl) (ev_t rfl) rfl rfl B5 rfl rfl ?_
    intro wS2 hgS2 hzS2
    clear B5
    intro B5
    replace B1 := B1.keep hgS2 (by intro h; injection h with h; first | exact x5_1 h.symm | exact x1_5 h | omega)
    replace B2 := B2.keep hgS2 (by intro h; injection h with h; first | exact x5_2 h.symm | exact x2_5 h | omega)
    replace B3 := B3.keep hgS2 (by intro h; injection h with h; first | exact x5_3 h.symm | exact x3_5 h | omega)
    have g := g_only g hgS2 (by intro k hk; injection hk with hk; omega)
    have hk5 := hk5.keep hgS2 (fun b hb _ he => by injection he with he; have hb := hb.2; have := N5.at_; omega)
    refine sr_pu rfl (fun _ => rd_assign (ev_t rfl)) ?_
    refine sr_sub [(1, _, _), (2, _, _), (5, _, _), (6, _, _)] (sub_cons rfl (sub_cons rfl (sub_cons rfl (sub_cons rfl (sub_nil _))))) ?_
    refine sr_nil (hK5 _ _ ?_)
    refine sc_seq fun K6 hK6 => ?_
    refine sc_text [3] ?_
    refine sr_pu rfl (fun _ => rd_move (ev_t rfl)) ?_
    refine sr_sub [(1, _, _), (2, _, _), (5, _, _), (23, _, _)] (sub_cons rfl (sub_cons rfl (sub_cons rfl (sub_cons rfl (sub_nil _))))) ?_
    refine sr_nil (hK6 _ _ ?_)
    refine sc_cond (ev_t rfl) (fun h2 => ?_) (fun h2 => ?_)
    · (try simp only [bsimp] at h2)
      refine sc_seq fun K7 hK7 => ?_
      refine sc_text [0, 2] ?_
      have hT : foldT t = (replT (valC t).1 t.pos).1 := by rw [foldT_eq]; unfold foldF; simp only [h1, h2, cond_true, Bool.and_self]
      refine sr_rd rfl (rd_loads agg_api_Node (ev_t rfl) rfl (fun _ => B5.row)) ?_
      refine sr_store_all rfl sz_api_Node (ev_t rfl) (ev_t rfl) rfl rfl B2 rfl rfl ?_
      intro wS3 hgS3 hzS3
      clear B2
      intro B2
      replace B1 := B1.keep hgS3 (by intro h; injection h with h; first | exact x2_1 h.symm | exact x1_2 h | omega)
      replace B3 := B3.keep hgS3 (by intro h; injection h with h; first | exact x2_3 h.symm | exact x3_2 h | omega)
      replace B5 := B5.keep hgS3 (by intro h; injection h with h; first | exact x2_5 h.symm | exact x5_2 h | omega)
      have g := g_only g hgS3 (by intro k hk; injection hk with hk; omega)
      try have hk5 := hk5.keep hgS3 (fun b hb _ he => by injection he with he; have hb := hb.1; omega)
      refine sr_sub [(1, _, _), (2, _, _)] (sub_cons rfl (sub_cons rfl (sub_nil _))) ?_
      refine sr_nil (hK7 _ _ ?_)
      refine sc_ret (t_retv1 rfl (evr_c rfl agg_api_Node rfl (by first | exact B1.row | exact B2.row | exact B3.row | exact B5.row) (evr_nil)) ?_)
      first
        | exact ⟨⟨_, _, by rw [hT], by rw [hT]; exact hk5.mono fun b hb _ => Nat.le_trans hlow hb.1⟩, g⟩
        | exact ⟨by rw [hT]; exact retNd_leaf _ _ _ rfl, g⟩
        | (refine ⟨?_, g⟩; rw [foldT_eq]; unfold foldF; simp only [h1, h2, cond_true, cond_false, Bool.and_self, Bool.and_true, Bool.and_false, Bool.false_and]; exact ⟨_, _, rfl, hk5.mono fun b hb _ => Nat.le_trans hlow hb.1⟩)
    (try simp only [bsimp] at h2)
    refine sc_skip (hK2 _ _ ?_)
    refine sc_sub [(1, _, _), (2, _, _)] (sub_cons rfl (sub_cons rfl (sub_nil _))) ?_
    refine sc_seq fun K8 hK8 => ?_
    refine sc_seq fun K9 hK9 => ?_
    refine sc_text [3, 0, 3] ?_
    refine sr_pu rfl (fun _ => rd_field fo_api_Node_0 (ev_t rfl)) ?_
    refine sr_rd rfl (rd_load one_int (ev_t rfl) (fun _ => B1.at_ rfl)) ?_
    refine sr_pu rfl (fun _ => rd_eq (ev_t rfl) ev_c) ?_
    refine sr_sub [(1, _, _), (2, _, _), (27, _, _)] (sub_cons rfl (sub_cons rfl (sub_cons rfl (sub_nil _)))) ?_
    refine sr_nil (hK9 _ _ ?_)
    refine sc_cond (ev_t rfl) (fun h3 => ?_) (fun h3 => ?_)
    · (try simp only [bsimp] at h3)
      refine sc_seq fun K10 hK10 => ?_
      refine sc_text [3, 0, 3, 0, 1, 3, 3, 3, 1, 2, 3] ?_
      have hl3 := hl18 (by simpa using h3)
      refine sr_pu rfl (fun _ => rd_field fo_api_Node_4 (ev_t rfl)) ?_
      refine sr_rd rfl (rd_load one_sl_api_Node (ev_t rfl) (fun _ => B1.at_ rfl)) ?_
      refine sr_pu rfl (fun _ => rd_idxq el_sl_api_Node (ev_t rfl) ev_c (fun _ => by omega) (fun _ => (h0x (by omega)).1)) ?_
      refine sr_rd rfl (rd_loads agg_api_Node (ev_t rfl) rfl (fun _ => (h0x (by omega)).2.1.grow g)) ?_
      refine sr_pure rfl (rc_call go_fold_value ev_f (args_cons (ev_t rfl) (args_nil)) rfl) (fvalue_ok (kidAt t 0) _ D _ ((h0x (by omega)).2.2.grow g)) (fun w33 g33 => ?_)
      have g := g.trans (g33)
      replace B1 := B1.grow (g33)
      replace B2 := B2.grow (g33)
      replace B3 := B3.grow (g33)
      replace B5 := B5.grow (g33)
      try have hk5 := hk5.grow (g33)
      refine sr_pu rfl (fun _ => rd_move (ev_t rfl)) ?_
      refine sr_pu rfl (fun _ => rd_extract (ev_t rfl) rfl) ?_
      refine sr_pu rfl (fun _ => rd_extract (ev_t rfl) rfl) ?_
      refine sr_alloc rfl ze_fold_constant rfl ?_
      intro b7 w7 N7
      have x7_1 := N7.ne B1
      have x7_2 := N7.ne B2
      have x7_3 := N7.ne B3
      have x7_5 := N7.ne B5
      have l7 := N7.ge g
      have g := g.trans (N7.g)
      replace B1 := B1.grow (N7.g)
      replace B2 := B2.grow (N7.g)
      replace B3 := B3.grow (N7.g)
      replace B5 := B5.grow (N7.g)
      try have hk5 := hk5.grow (N7.g)
      have B7 := N7.blk
      refine sr_store_all rfl sz_fold_constant (ev_t rfl) (ev_t rfl) rfl rfl B7 rfl rfl ?_
      intro wS4 hgS4 hzS4
      clear B7
      intro B7
      replace B1 := B1.keep hgS4 (by intro h; injection h with h; first | exact x7_1 h.symm | exact x1_7 h | omega)
      replace B2 := B2.keep hgS4 (by intro h; injection h with h; first | exact x7_2 h.symm | exact x2_7 h | omega)
      replace B3 := B3.keep hgS4 (by intro h; injection h with h; first | exact x7_3 h.symm | exact x3_7 h | omega)
      replace B5 := B5.keep hgS4 (by intro h; injection h with h; first | exact x7_5 h.symm | exact x5_7 h | omega)
      have g := g_only g hgS4 (by intro k hk; injection hk with hk; omega)
      refine sr_pu rfl (fun _ => rd_assign (ev_t rfl)) ?_
      refine sr_sub [(1, _, _), (2, _, _), (7, _, _), (8, _, _)] (sub_cons rfl (sub_cons rfl (sub_cons rfl (sub_cons rfl (sub_nil _))))) ?_
      refine sr_nil (hK10 _ _ ?_)
      refine sc_seq fun K11 hK11 => ?_
      refine sc_text [3] ?_
      refine sr_pu rfl (fun _ => rd_move (ev_t rfl)) ?_
      refine sr_sub [(1, _, _), (2, _, _), (7, _, _), (36, _, _)] (sub_cons rfl (sub_cons rfl (sub_cons rfl (sub_cons rfl (sub_nil _))))) ?_
      refine sr_nil (hK11 _ _ ?_)
      refine sc_cond (ev_t rfl) (fun h4 => ?_) (fun h4 => ?_)
      · (try simp only [bsimp] at h4)
        refine sc_seq fun K12 hK12 => ?_
        refine sc_block ?_
        refine sc_seq fun K13 hK13 => ?_
        refine sc_text [3, 0, 3, 3] ?_
        refine sr_pu rfl (fun _ => rd_field fo_fold_constant_1 (ev_t rfl)) ?_
        refine sr_rd rfl (rd_load one_int (ev_t rfl) (fun _ => B7.at_ rfl)) ?_
        refine sr_pu rfl (fun _ => rd_eq (ev_t rfl) ev_c) ?_
        refine sr_pu rfl (fun _ => rd_assign (ev_t rfl)) ?_
        refine sr_sub [(1, _, _), (2, _, _), (37, _, _)] (sub_cons rfl (sub_cons rfl (sub_cons rfl (sub_nil _)))) ?_
        refine sr_nil (hK13 _ _ ?_)
        refine sc_cond (ev_t rfl) (fun h5 => ?_) (fun h5 => ?_)
        · (try simp only [bsimp] at h5)
          refine sc_seq fun K14 hK14 => ?_
          refine sc_text [3, 0, 3, 0, 1, 2] ?_
          have hT : foldT t = foldT (kidAt t 1) := by rw [foldT_eq t]; unfold foldF; simp only [h1, h2, h3, h4, h5, cond_true, cond_false, Bool.and_self, Bool.and_true, Bool.and_false, Bool.false_and]; exact getD_fold (by omega)
          refine sr_pu rfl (fun _ => rd_field fo_api_Node_4 (ev_t rfl)) ?_
          refine sr_rd rfl (rd_load one_sl_api_Node (ev_t rfl) (fun _ => B1.at_ rfl)) ?_
          refine sr_pu rfl (fun _ => rd_idxq el_sl_api_Node (ev_t rfl) ev_c (fun _ => by omega) (fun _ => (h1x (by omega)).1)) ?_
          refine sr_rd rfl (rd_loads agg_api_Node (ev_t rfl) rfl (fun _ => (h1x (by omega)).2.1.grow g)) ?_
          refine sr_call rfl (rc_call go_fold_fold ev_f (args_cons (ev_t rfl) (args_nil)) rfl) (hfi 1 (by omega) _ D _ ((h1x (by omega)).2.2.grow g)) ?_
          rintro v45 w45 ⟨⟨p5, c5, rfl, hk5⟩, g45⟩
          refine ⟨fun _ => g45, ?_⟩
          have hlow := g.size
          have hB2 := B2.lt
          have g := g.trans g45
          have hk5 := hk5.lt
          replace B1 := B1.grow (g45)
          replace B2 := B2.grow (g45)
          replace B3 := B3.grow (g45)
          replace B5 := B5.grow (g45)
          replace B7 := B7.grow (g45)
          try have hk5 := hk5.grow (g45)
          refine sr_store_all rfl sz_api_Node (ev_t rfl) (ev_t rfl) rfl rfl B2 rfl rfl ?_
          intro wS5 hgS5 hzS5
          clear B2
          intro B2
          replace B1 := B1.keep hgS5 (by intro h; injection h with h; first | exact x2_1 h.symm | exact x1_2 h | omega)
          replace B3 := B3.keep hgS5 (by intro h; injection h with h; first | exact x2_3 h.symm | exact x3_2 h | omega)
          replace B5 := B5.keep hgS5 (by intro h; injection h with h; first | exact x2_5 h.symm | exact x5_2 h | omega)
          replace B7 := B7.keep hgS5 (by intro h; injection h with h; first | exact x2_7 h.symm | exact x7_2 h | omega)
          have g := g_only g hgS5 (by intro k hk; injection hk with hk; omega)
          try have hk5 := hk5.keep hgS5 (fun b hb _ he => by injection he with he; have hb := hb.1; omega)
          refine sr_sub [(1, _, _), (2, _, _)] (sub_cons rfl (sub_cons rfl (sub_nil _))) ?_
          refine sr_nil (hK14 _ _ ?_)
          refine sc_ret (t_retv1 rfl (evr_c rfl agg_api_Node rfl (by first | exact B1.row | exact B2.row | exact B3.row | exact B5.row | exact B7.row) (evr_nil)) ?_)
          first
            | exact ⟨⟨_, _, by rw [hT], by rw [hT]; exact hk5.mono fun b hb _ => Nat.le_trans hlow hb.1⟩, g⟩
            | exact ⟨by rw [hT]; exact retNd_leaf _ _ _ rfl, g⟩
            | (refine ⟨?_, g⟩; rw [foldT_eq]; unfold foldF; simp only [h1, h2, h3, h4, h5, cond_true, cond_false, Bool.and_self, Bool.and_true, Bool.and_false, Bool.false_and]; exact ⟨_, _, rfl, hk5.mono fun b hb _ => Nat.le_trans hlow hb.1⟩)
        (try simp only [bsimp] at h5)
        refine sc_seq fun K15 hK15 => ?_
        refine sc_text [3, 0, 3, 3, 0, 3, 3] ?_
        refine sr_pu rfl (fun _ => rd_field fo_api_Node_4 (ev_t rfl)) ?_
        refine sr_rd rfl (rd_load one_sl_api_Node (ev_t rfl) (fun _ => B1.at_ rfl)) ?_
        refine sr_pu rfl (fun _ => rd_idxq el_sl_api_Node (ev_t rfl) ev_c (fun _ => by omega) (fun _ => (h2x (by omega)).1)) ?_
        refine sr_pu rfl (fun _ => rd_field fo_api_Node_0 (ev_t rfl)) ?_
        refine sr_rd rfl (rd_load one_int (ev_t rfl) (fun _ => ((h2x (by omega)).2.1.grow g) 0 _ rfl)) ?_
        refine sr_pu rfl (fun _ => rd_eq (ev_t rfl) ev_c) ?_
        refine sr_pu rfl (fun _ => rd_assign (ev_t rfl)) ?_
        refine sr_sub [(1, _, _), (2, _, _), (46, _, _)] (sub_cons rfl (sub_cons rfl (sub_cons rfl (sub_nil _)))) ?_
        refine sr_nil (hK15 _ _ ?_)
        refine sc_cond (ev_t rfl) (fun h6 => ?_) (fun h6 => ?_)
        · (try simp only [bsimp] at h6)
          refine sc_seq fun K16 hK16 => ?_
          refine sc_text [3, 0, 3, 2] ?_
          have hT : foldT t = .mk 10 [] 0 t.pos [] ty0 0 0 := by rw [foldT_eq t]; unfold foldF; simp only [h1, h2, h3, h4, h5, h6, cond_true, cond_false, Bool.and_self, Bool.and_true, Bool.and_false, Bool.false_and]
          refine sr_pu rfl (fun _ => rd_field fo_api_Node_3 (ev_t rfl)) ?_
          refine sr_rd rfl (rd_load one_int (ev_t rfl) (fun _ => B1.at_ rfl)) ?_
          refine sr_pu rfl (fun _ => rd_build [_, _, _, _, _, _, _, _, _] ze_api_Node rfl pl_api_Node (parts_cons ev_c (parts_cons (ev_t rfl) (parts_nil))) rfl) ?_
          refine sr_store_all rfl sz_api_Node (ev_t rfl) (ev_t rfl) rfl rfl B2 rfl rfl ?_
          intro wS6 hgS6 hzS6
          clear B2
          intro B2
          replace B1 := B1.keep hgS6 (by intro h; injection h with h; first | exact x2_1 h.symm | exact x1_2 h | omega)
          replace B3 := B3.keep hgS6 (by intro h; injection h with h; first | exact x2_3 h.symm | exact x3_2 h | omega)
          replace B5 := B5.keep hgS6 (by intro h; injection h with h; first | exact x2_5 h.symm | exact x5_2 h | omega)
          replace B7 := B7.keep hgS6 (by intro h; injection h with h; first | exact x2_7 h.symm | exact x7_2 h | omega)
          have g := g_only g hgS6 (by intro k hk; injection hk with hk; omega)
          try have hk5 := hk5.keep hgS6 (fun b hb _ he => by injection he with he; have hb := hb.1; omega)
          refine sr_sub [(1, _, _), (2, _, _)] (sub_cons rfl (sub_cons rfl (sub_nil _))) ?_
          refine sr_nil (hK16 _ _ ?_)
          refine sc_ret (t_retv1 rfl (evr_c rfl agg_api_Node rfl (by first | exact B1.row | exact B2.row | exact B3.row | exact B5.row | exact B7.row) (evr_nil)) ?_)
          first
            | exact ⟨⟨_, _, by rw [hT], by rw [hT]; exact hk5.mono fun b hb _ => Nat.le_trans hlow hb.1⟩, g⟩
            | exact ⟨by rw [hT]; exact retNd_leaf _ _ _ rfl, g⟩
            | (refine ⟨?_, g⟩; rw [foldT_eq]; unfold foldF; simp only [h1, h2, h3, h4, h5, h6, cond_true, cond_false, Bool.and_self, Bool.and_true, Bool.and_false, Bool.false_and]; exact ⟨_, _, rfl, hk5.mono fun b hb _ => Nat.le_trans hlow hb.1⟩)
        (try simp only [bsimp] at h6)
        refine sc_skip (hK12 _ _ ?_)
        refine sc_sub [(1, _, _), (2, _, _)] (sub_cons rfl (sub_cons rfl (sub_nil _))) ?_
        refine sc_seq fun K17 hK17 => ?_
        refine sc_text [3, 0, 3, 0, 1, 2] ?_
        have hT : foldT t = foldT (kidAt t 2) := by rw [foldT_eq t]; unfold foldF; simp only [h1, h2, h3, h4, h5, h6, cond_true, cond_false, Bool.and_self, Bool.and_true, Bool.and_false, Bool.false_and]; exact getD_fold (by omega)
        refine sr_pu rfl (fun _ => rd_field fo_api_Node_4 (ev_t rfl)) ?_
        refine sr_rd rfl (rd_load one_sl_api_Node (ev_t rfl) (fun _ => B1.at_ rfl)) ?_
        refine sr_pu rfl (fun _ => rd_idxq el_sl_api_Node (ev_t rfl) ev_c (fun _ => by omega) (fun _ => (h2x (by omega)).1)) ?_
        refine sr_rd rfl (rd_loads agg_api_Node (ev_t rfl) rfl (fun _ => (h2x (by omega)).2.1.grow g)) ?_
        refine sr_call rfl (rc_call go_fold_fold ev_f (args_cons (ev_t rfl) (args_nil)) rfl) (hfi 2 (by omega) _ D _ ((h2x (by omega)).2.2.grow g)) ?_
        rintro v60 w60 ⟨⟨p5, c5, rfl, hk5⟩, g60⟩
        refine ⟨fun _ => g60, ?_⟩
        have hlow := g.size
        have hB2 := B2.lt
        have g := g.trans g60
        have hk5 := hk5.lt
        replace B1 := B1.grow (g60)
        replace B2 := B2.grow (g60)
        replace B3 := B3.grow (g60)
        replace B5 := B5.grow (g60)
        replace B7 := B7.grow (g60)
        try have hk5 := hk5.grow (g60)
        refine sr_store_all rfl sz_api_Node (ev_t rfl) (ev_t rfl) rfl rfl B2 rfl rfl ?_
        intro wS7 hgS7 hzS7
        clear B2
        intro B2
        replace B1 := B1.keep hgS7 (by intro h; injection h with h; first | exact x2_1 h.symm | exact x1_2 h | omega)
        replace B3 := B3.keep hgS7 (by intro h; injection h with h; first | exact x2_3 h.symm | exact x3_2 h | omega)
        replace B5 := B5.keep hgS7 (by intro h; injection h with h; first | exact x2_5 h.symm | exact x5_2 h | omega)
        replace B7 := B7.keep hgS7 (by intro h; injection h with h; first | exact x2_7 h.symm | exact x7_2 h | omega)
        have g := g_only g hgS7 (by intro k hk; injection hk with hk; omega)
        try have hk5 := hk5.keep hgS7 (fun b hb _ he => by injection he with he; have hb := hb.1; omega)
        refine sr_nil (hK17 _ _ ?_)
        refine sc_ret (t_retv1 rfl (evr_c rfl agg_api_Node rfl (by first | exact B1.row | exact B2.row | exact B3.row | exact B5.row | exact B7.row) (evr_nil)) ?_)
        first
          | exact ⟨⟨_, _, by rw [hT], by rw [hT]; exact hk5.mono fun b hb _ => Nat.le_trans hlow hb.1⟩, g⟩
          | exact ⟨by rw [hT]; exact retNd_leaf _ _ _ rfl, g⟩
          | (refine ⟨?_, g⟩; rw [foldT_eq]; unfold foldF; simp only [h1, h2, h3, h4, h5, h6, cond_true, cond_false, Bool.and_self, Bool.and_true, Bool.and_false, Bool.false_and]; exact ⟨_, _, rfl, hk5.mono fun b hb _ => Nat.le_trans hlow hb.1⟩)
      (try simp only [bsimp] at h4)
      refine sc_skip (hK8 _ _ ?_)
      refine sc_sub [(1, _, _), (2, _, _)] (sub_cons rfl (sub_cons rfl (sub_nil _))) ?_
      refine sc_seq fun K18 hK18 => ?_
      refine sc_drawT none [3, 0, 3, 0, 3, 0, 3, 0, 1, 3, 1, 2] [0, 1, 0, 4, 0, 16, 0, 64, 192, 511, 0, 2047] mix (by kernel_rfl) [0, 1, 2, 3, 4, 5, 6, 7, 8, 9, 10, 11] rfl ?_
      have g := g.trans (G.drew _)
      replace B1 := B1.grow (G.drew _)
      replace B2 := B2.grow (G.drew _)
      replace B3 := B3.grow (G.drew _)
      replace B5 := B5.grow (G.drew _)
      replace B7 := B7.grow (G.drew _)
      try have hk5 := hk5.grow (G.drew _)
      refine st_pu (L' := [1, 2, 3, 4, 5, 6, 7, 8, 9, 10, 11]) 0 rfl rfl rfl (fun _ => rd_field fo_api_Node_0 (ev_t rfl)) ?_
      refine st_rd (L' := [2, 3, 4, 5, 6, 7, 8, 9, 10, 11]) 1 rfl rfl rfl (fun w1 hx => rd_load one_int (ev_t rfl) (fun _ => (B1.keep hx (by intro h; first | (injection h with h; omega) | cases h)).at_ rfl)) ?_
      refine st_pu (L' := [3, 4, 5, 6, 7, 8, 9, 10, 11]) 2 rfl rfl rfl (fun _ => rd_field fo_api_Node_1 (ev_t rfl)) ?_
      refine st_rd (L' := [4, 5, 6, 7, 8, 9, 10, 11]) 3 rfl rfl rfl (fun w1 hx => rd_load one_string (ev_t rfl) (fun _ => (B1.keep hx (by intro h; first | (injection h with h; omega) | cases h)).at_ rfl)) ?_
      refine st_pu (L' := [5, 6, 7, 8, 9, 10, 11]) 4 rfl rfl rfl (fun _ => rd_field fo_api_Node_3 (ev_t rfl)) ?_
      refine st_rd (L' := [6, 7, 8, 9, 10, 11]) 5 rfl rfl rfl (fun w1 hx => rd_load one_int (ev_t rfl) (fun _ => (B1.keep hx (by intro h; first | (injection h with h; omega) | cases h)).at_ rfl)) ?_
      refine st_pu (L' := [7, 8, 9, 10, 11]) 6 rfl rfl rfl (fun _ => rd_field fo_api_Node_4 (ev_t rfl)) ?_
      refine st_rd (L' := [8, 9, 10, 11]) 7 rfl rfl rfl (fun w1 hx => rd_load one_sl_api_Node (ev_t rfl) (fun _ => (B1.keep hx (by intro h; first | (injection h with h; omega) | cases h)).at_ rfl)) ?_
      refine st_eff2 8 10 rfl rfl ?_ ?_
      · refine ste_of_sr (L' := [9, 10, 11]) [3, 0, 3, 0, 3, 0, 3, 0, 1, 3, 1, 2] rfl rfl rfl ?_
        refine sr_call rfl (rc_call go_fold_each_api_Node ev_f (args_cons (ev_t rfl) (args_cons ev_f (args_nil))) rfl) (each_ok t.kids _ _ D _ (hk0.grow g) hf (by omega)) ?_
        rintro v69 w69 ⟨⟨p5, c5, rfl, hk5⟩, g69⟩
        refine ⟨fun _ => g69, ?_⟩
        have hlow := g.size
        have hB2 := B2.lt
        try have hB9 := B9.lt
        have g := g.trans g69
        have hk5 := hk5.lt
        replace B1 := B1.grow (g69)
        replace B2 := B2.grow (g69)
        replace B3 := B3.grow (g69)
        replace B5 := B5.grow (g69)
        replace B7 := B7.grow (g69)
        try have hk5 := hk5.grow (g69)
        refine sr_nilT ((g69).only _) ?_
        refine st_pu (L' := [10, 11]) 9 rfl rfl rfl (fun _ => rd_build [_, _, _, _, _, _, _, _, _] ze_api_Node rfl pl_api_Node (parts_cons (ev_t rfl) (parts_cons (ev_t rfl) (parts_cons (ev_t rfl) (parts_cons (ev_t rfl) (parts_nil))))) rfl) ?_
        refine st_eff1 10 rfl rfl ?_
        refine ste_of_sr (L' := [11]) [3, 0, 3, 0, 3, 0, 3, 0, 1, 3, 1, 2] rfl rfl rfl ?_
        refine sr_alloc rfl ze_api_Node rfl ?_
        intro b9 w9 N9
        have x9_1 := N9.ne B1
        have x9_2 := N9.ne B2
        have x9_3 := N9.ne B3
        have x9_5 := N9.ne B5
        have x9_7 := N9.ne B7
        have l9 := N9.ge g
        have g := g.trans (N9.g)
        replace B1 := B1.grow (N9.g)
        replace B2 := B2.grow (N9.g)
        replace B3 := B3.grow (N9.g)
        replace B5 := B5.grow (N9.g)
        replace B7 := B7.grow (N9.g)
        try have hk5 := hk5.grow (N9.g)
        have B9 := N9.blk
        refine sr_nilT ((N9.g).only _) ?_
        refine st_eff1 11 rfl rfl ?_
        refine ste2_of_sr (L' := []) [3, 0, 3, 0, 3, 0, 3, 0, 1, 3, 1, 2] rfl rfl rfl rfl ?_
        refine sr_store_all rfl sz_api_Node (ev_t rfl) (ev_t rfl) rfl rfl B9 rfl rfl ?_
        intro wS8 hgS8 hzS8
        clear B9
        intro B9
        replace B1 := B1.keep hgS8 (by intro h; injection h with h; first | exact x9_1 h.symm | exact x1_9 h | omega)
        replace B2 := B2.keep hgS8 (by intro h; injection h with h; first | exact x9_2 h.symm | exact x2_9 h | omega)
        replace B3 := B3.keep hgS8 (by intro h; injection h with h; first | exact x9_3 h.symm | exact x3_9 h | omega)
        replace B5 := B5.keep hgS8 (by intro h; injection h with h; first | exact x9_5 h.symm | exact x5_9 h | omega)
        replace B7 := B7.keep hgS8 (by intro h; injection h with h; first | exact x9_7 h.symm | exact x7_9 h | omega)
        have g := g_only g hgS8 (by intro k hk; injection hk with hk; omega)
        have e9 := N9.at_
        have hk5 := hk5.keep hgS8 (fun b hb _ he => by injection he with he; have hb1 := hb.1; have hb2 := hb.2; omega)
        refine sr_nilT2 ?_
        refine st_sub [(1, _, _), (2, _, _), (9, _, _)] (sub_cons rfl (sub_cons rfl (sub_cons rfl (sub_nil _)))) ?_
        refine st_nil (hK18 _ _ ?_)
        refine sc_seq fun K19 hK19 => ?_
        refine sc_seq fun K20 hK20 => ?_
        refine sc_text [3, 0, 3, 3, 3, 0, 3, 3] ?_
        refine sr_pu rfl (fun _ => rd_field fo_api_Node_0 (ev_t rfl)) ?_
        refine sr_rd rfl (rd_load one_int (ev_t rfl) (fun _ => B1.at_ rfl)) ?_
        refine sr_pu rfl (fun _ => rd_eq (ev_t rfl) ev_c) ?_
        refine sr_pu rfl (fun _ => rd_move (ev_t rfl)) ?_
        refine sr_pug rfl rfl rfl (fun _ => rd_field fo_api_Node_0 (ev_t rfl)) ?_
        refine sr_rdg rfl rfl rfl (rd_load one_int (ev_u rfl id) (fun _ => B1.at_ rfl)) ?_
        refine sr_pug rfl rfl rfl (fun _ => rd_eq (ev_u rfl id) ev_c) ?_
        refine sr_pu rfl (fun _ => rd_pick_or (ev_t rfl) (ev_u rfl id)) ?_
        refine sr_sub [(1, _, _), (2, _, _), (9, _, _), (78, _, _)] (sub_cons rfl (sub_cons rfl (sub_cons rfl (sub_cons rfl (sub_nil _))))) ?_
        refine sr_nil (hK20 _ _ ?_)
        refine sc_cond (ev_t rfl) (fun h7 => ?_) (fun h7 => ?_)
        · (try simp only [bsimp] at h7)
          refine sc_text [3, 0, 3, 2] ?_
          refine sr_pu rfl (fun _ => rd_field fo_api_Node_2 (ev_t rfl)) ?_
          refine sr_rd rfl (rd_load one_int (ev_t rfl) (fun _ => B1.at_ rfl)) ?_
          refine sr_pu rfl (fun _ => rd_field fo_api_Node_2 (ev_t rfl)) ?_
          refine sr_store_one rfl sz_int (ev_t rfl) (ev_t rfl) rfl B9 rfl rfl ?_
          intro wS9 hgS9 hzS9
          clear B9
          intro B9
          replace B1 := B1.keep hgS9 (by intro h; injection h with h; first | exact x9_1 h.symm | exact x1_9 h | omega)
          replace B2 := B2.keep hgS9 (by intro h; injection h with h; first | exact x9_2 h.symm | exact x2_9 h | omega)
          replace B3 := B3.keep hgS9 (by intro h; injection h with h; first | exact x9_3 h.symm | exact x3_9 h | omega)
          replace B5 := B5.keep hgS9 (by intro h; injection h with h; first | exact x9_5 h.symm | exact x5_9 h | omega)
          replace B7 := B7.keep hgS9 (by intro h; injection h with h; first | exact x9_7 h.symm | exact x7_9 h | omega)
          have g := g_only g hgS9 (by intro k hk; injection hk with hk; omega)
          have hk5 := hk5.keep hgS9 (fun b hb _ he => by injection he with he; have hb1 := hb.1; have hb2 := hb.2; omega)
          refine sr_sub [(2, _, _), (9, _, _)] (sub_cons rfl (sub_cons rfl (sub_nil _))) ?_
          refine sr_nil (hK19 _ _ ?_)
          refine sc_seq fun K21 hK21 => ?_
          refine sc_text [0, 2] ?_
          refine sr_rd rfl (rd_loads agg_api_Node (ev_t rfl) rfl (fun _ => B9.row)) ?_
          refine sr_store_all rfl sz_api_Node (ev_t rfl) (ev_t rfl) rfl rfl B2 rfl rfl ?_
          intro wS10 hgS10 hzS10
          clear B2
          intro B2
          replace B1 := B1.keep hgS10 (by intro h; injection h with h; first | exact x2_1 h.symm | exact x1_2 h | omega)
          replace B3 := B3.keep hgS10 (by intro h; injection h with h; first | exact x2_3 h.symm | exact x3_2 h | omega)
          replace B5 := B5.keep hgS10 (by intro h; injection h with h; first | exact x2_5 h.symm | exact x5_2 h | omega)
          replace B7 := B7.keep hgS10 (by intro h; injection h with h; first | exact x2_7 h.symm | exact x7_2 h | omega)
          replace B9 := B9.keep hgS10 (by intro h; injection h with h; first | exact x2_9 h.symm | exact x9_2 h | omega)
          have g := g_only g hgS10 (by intro k hk; injection hk with hk; omega)
          try have hk5 := hk5.keep hgS10 (fun b hb _ he => by injection he with he; have hb := hb.1; omega)
          refine sr_sub [(2, _, _)] (sub_cons rfl (sub_nil _)) ?_
          refine sr_nil (hK21 _ _ ?_)
          refine sc_ret (t_retv1 rfl (evr_c rfl agg_api_Node rfl (by first | exact B1.row | exact B2.row | exact B3.row | exact B5.row | exact B7.row | exact B9.row) (evr_nil)) ?_)
          first
            | exact ⟨⟨_, _, by rw [hT], by rw [hT]; exact hk5.mono fun b hb _ => Nat.le_trans hlow hb.1⟩, g⟩
            | exact ⟨by rw [hT]; exact retNd_leaf _ _ _ rfl, g⟩
            | (refine ⟨?_, g⟩; rw [foldT_eq]; unfold foldF; simp only [h1, h2, h3, h4, h7, cond_true, cond_false, Bool.and_self, Bool.and_true, Bool.and_false, Bool.false_and]; exact ⟨_, _, rfl, hk5.mono fun b hb _ => Nat.le_trans hlow hb.1⟩)
        (try simp only [bsimp] at h7)
        refine sc_skip (hK19 _ _ ?_)
        refine sc_sub [(2, _, _), (9, _, _)] (sub_cons rfl (sub_cons rfl (sub_nil _))) ?_
        refine sc_seq fun K22 hK22 => ?_
        refine sc_text [0, 2] ?_
        refine sr_rd rfl (rd_loads agg_api_Node (ev_t rfl) rfl (fun _ => B9.row)) ?_
        refine sr_store_all rfl sz_api_Node (ev_t rfl) (ev_t rfl) rfl rfl B2 rfl rfl ?_
        intro wS11 hgS11 hzS11
        clear B2
        intro B2
        replace B1 := B1.keep hgS11 (by intro h; injection h with h; first | exact x2_1 h.symm | exact x1_2 h | omega)
        replace B3 := B3.keep hgS11 (by intro h; injection h with h; first | exact x2_3 h.symm | exact x3_2 h | omega)
        replace B5 := B5.keep hgS11 (by intro h; injection h with h; first | exact x2_5 h.symm | exact x5_2 h | omega)
        replace B7 := B7.keep hgS11 (by intro h; injection h with h; first | exact x2_7 h.symm | exact x7_2 h | omega)
        replace B9 := B9.keep hgS11 (by intro h; injection h with h; first | exact x2_9 h.symm | exact x9_2 h | omega)
        have g := g_only g hgS11 (by intro k hk; injection hk with hk; omega)
        try have hk5 := hk5.keep hgS11 (fun b hb _ he => by injection he with he; have hb := hb.1; omega)
        refine sr_sub [(2, _, _)] (sub_cons rfl (sub_nil _)) ?_
        refine sr_nil (hK22 _ _ ?_)
        refine sc_ret (t_retv1 rfl (evr_c rfl agg_api_Node rfl (by first | exact B1.row | exact B2.row | exact B3.row | exact B5.row | exact B7.row | exact B9.row) (evr_nil)) ?_)
        first
          | exact ⟨⟨_, _, by rw [hT], by rw [hT]; exact hk5.mono fun b hb _ => Nat.le_trans hlow hb.1⟩, g⟩
          | exact ⟨by rw [hT]; exact retNd_leaf _ _ _ rfl, g⟩
          | (refine ⟨?_, g⟩; rw [foldT_eq]; unfold foldF; simp only [h1, h2, h3, h4, h7, cond_true, cond_false, Bool.and_self, Bool.and_true, Bool.and_false, Bool.false_and]; exact ⟨_, _, rfl, hk5.mono fun b hb _ => Nat.le_trans hlow hb.1⟩)
      · refine ste_of_sr (L' := [8, 9, 11]) [3, 0, 3, 0, 3, 0, 3, 0, 1, 3, 1, 2] rfl rfl rfl ?_
        refine sr_alloc rfl ze_api_Node rfl ?_
        intro b9 w9 N9
        have x9_1 := N9.ne B1
        have x9_2 := N9.ne B2
        have x9_3 := N9.ne B3
        have x9_5 := N9.ne B5
        have x9_7 := N9.ne B7
        have l9 := N9.ge g
        have g := g.trans (N9.g)
        replace B1 := B1.grow (N9.g)
        replace B2 := B2.grow (N9.g)
        replace B3 := B3.grow (N9.g)
        replace B5 := B5.grow (N9.g)
        replace B7 := B7.grow (N9.g)
        try have hk5 := hk5.grow (N9.g)
        have B9 := N9.blk
        refine sr_nilT ((N9.g).only _) ?_
        refine st_eff1 8 rfl rfl ?_
        refine ste_of_sr (L' := [9, 11]) [3, 0, 3, 0, 3, 0, 3, 0, 1, 3, 1, 2] rfl rfl rfl ?_
        refine sr_call rfl (rc_call go_fold_each_api_Node ev_f (args_cons (ev_t rfl) (args_cons ev_f (args_nil))) rfl) (each_ok t.kids _ _ D _ (hk0.grow g) hf (by omega)) ?_
        rintro v69 w69 ⟨⟨p5, c5, rfl, hk5⟩, g69⟩
        refine ⟨fun _ => g69, ?_⟩
        have hlow := g.size
        have hB2 := B2.lt
        try have hB9 := B9.lt
        have g := g.trans g69
        have hk5 := hk5.lt
        replace B1 := B1.grow (g69)
        replace B2 := B2.grow (g69)
        replace B3 := B3.grow (g69)
        replace B5 := B5.grow (g69)
        replace B7 := B7.grow (g69)
        replace B9 := B9.grow (g69)
        try have hk5 := hk5.grow (g69)
        refine sr_nilT ((g69).only _) ?_
        refine st_pu (L' := [11]) 9 rfl rfl rfl (fun _ => rd_build [_, _, _, _, _, _, _, _, _] ze_api_Node rfl pl_api_Node (parts_cons (ev_t rfl) (parts_cons (ev_t rfl) (parts_cons (ev_t rfl) (parts_cons (ev_t rfl) (parts_nil))))) rfl) ?_
        refine st_eff1 11 rfl rfl ?_
        refine ste2_of_sr (L' := []) [3, 0, 3, 0, 3, 0, 3, 0, 1, 3, 1, 2] rfl rfl rfl rfl ?_
        refine sr_store_all rfl sz_api_Node (ev_t rfl) (ev_t rfl) rfl rfl B9 rfl rfl ?_
        intro wS8 hgS8 hzS8
        clear B9
        intro B9
        replace B1 := B1.keep hgS8 (by intro h; injection h with h; first | exact x9_1 h.symm | exact x1_9 h | omega)
        replace B2 := B2.keep hgS8 (by intro h; injection h with h; first | exact x9_2 h.symm | exact x2_9 h | omega)
        replace B3 := B3.keep hgS8 (by intro h; injection h with h; first | exact x9_3 h.symm | exact x3_9 h | omega)
        replace B5 := B5.keep hgS8 (by intro h; injection h with h; first | exact x9_5 h.symm | exact x5_9 h | omega)
        replace B7 := B7.keep hgS8 (by intro h; injection h with h; first | exact x9_7 h.symm | exact x7_9 h | omega)
        have g := g_only g hgS8 (by intro k hk; injection hk with hk; omega)
        have e9 := N9.at_
        have hk5 := hk5.keep hgS8 (fun b hb _ he => by injection he with he; have hb1 := hb.1; have hb2 := hb.2; omega)
        refine sr_nilT2 ?_
        refine st_sub [(1, _, _), (2, _, _), (9, _, _)] (sub_cons rfl (sub_cons rfl (sub_cons rfl (sub_nil _)))) ?_
        refine st_nil (hK18 _ _ ?_)
        refine sc_seq fun K19 hK19 => ?_
        refine sc_seq fun K20 hK20 => ?_
        refine sc_text [3, 0, 3, 3, 3, 0, 3, 3] ?_
        refine sr_pu rfl (fun _ => rd_field fo_api_Node_0 (ev_t rfl)) ?_
        refine sr_rd rfl (rd_load one_int (ev_t rfl) (fun _ => B1.at_ rfl)) ?_
        refine sr_pu rfl (fun _ => rd_eq (ev_t rfl) ev_c) ?_
        refine sr_pu rfl (fun _ => rd_move (ev_t rfl)) ?_
        refine sr_pug rfl rfl rfl (fun _ => rd_field fo_api_Node_0 (ev_t rfl)) ?_
        refine sr_rdg rfl rfl rfl (rd_load one_int (ev_u rfl id) (fun _ => B1.at_ rfl)) ?_
        refine sr_pug rfl rfl rfl (fun _ => rd_eq (ev_u rfl id) ev_c) ?_
        refine sr_pu rfl (fun _ => rd_pick_or (ev_t rfl) (ev_u rfl id)) ?_
        refine sr_sub [(1, _, _), (2, _, _), (9, _, _), (78, _, _)] (sub_cons rfl (sub_cons rfl (sub_cons rfl (sub_cons rfl (sub_nil _))))) ?_
        refine sr_nil (hK20 _ _ ?_)
        refine sc_cond (ev_t rfl) (fun h7 => ?_) (fun h7 => ?_)
        · (try simp only [bsimp] at h7)
          refine sc_text [3, 0, 3, 2] ?_
          refine sr_pu rfl (fun _ => rd_field fo_api_Node_2 (ev_t rfl)) ?_
          refine sr_rd rfl (rd_load one_int (ev_t rfl) (fun _ => B1.at_ rfl)) ?_
          refine sr_pu rfl (fun _ => rd_field fo_api_Node_2 (ev_t rfl)) ?_
          refine sr_store_one rfl sz_int (ev_t rfl) (ev_t rfl) rfl B9 rfl rfl ?_
          intro wS9 hgS9 hzS9
          clear B9
          intro B9
          replace B1 := B1.keep hgS9 (by intro h; injection h with h; first | exact x9_1 h.symm | exact x1_9 h | omega)
          replace B2 := B2.keep hgS9 (by intro h; injection h with h; first | exact x9_2 h.symm | exact x2_9 h | omega)
          replace B3 := B3.keep hgS9 (by intro h; injection h with h; first | exact x9_3 h.symm | exact x3_9 h | omega)
          replace B5 := B5.keep hgS9 (by intro h; injection h with h; first | exact x9_5 h.symm | exact x5_9 h | omega)
          replace B7 := B7.keep hgS9 (by intro h; injection h with h; first | exact x9_7 h.symm | exact x7_9 h | omega)
          have g := g_only g hgS9 (by intro k hk; injection hk with hk; omega)
          have hk5 := hk5.keep hgS9 (fun b hb _ he => by injection he with he; have hb1 := hb.1; have hb2 := hb.2; omega)
          refine sr_sub [(2, _, _), (9, _, _)] (sub_cons rfl (sub_cons rfl (sub_nil _))) ?_
          refine sr_nil (hK19 _ _ ?_)
          refine sc_seq fun K21 hK21 => ?_
          refine sc_text [0, 2] ?_
          refine sr_rd rfl (rd_loads agg_api_Node (ev_t rfl) rfl (fun _ => B9.row)) ?_
          refine sr_store_all rfl sz_api_Node (ev_t rfl) (ev_t rfl) rfl rfl B2 rfl rfl ?_
          intro wS10 hgS10 hzS10
          clear B2
          intro B2
          replace B1 := B1.keep hgS10 (by intro h; injection h with h; first | exact x2_1 h.symm | exact x1_2 h | omega)
          replace B3 := B3.keep hgS10 (by intro h; injection h with h; first | exact x2_3 h.symm | exact x3_2 h | omega)
          replace B5 := B5.keep hgS10 (by intro h; injection h with h; first | exact x2_5 h.symm | exact x5_2 h | omega)
          replace B7 := B7.keep hgS10 (by intro h; injection h with h; first | exact x2_7 h.symm | exact x7_2 h | omega)
          replace B9 := B9.keep hgS10 (by intro h; injection h with h; first | exact x2_9 h.symm | exact x9_2 h | omega)
          have g := g_only g hgS10 (by intro k hk; injection hk with hk; omega)
          try have hk5 := hk5.keep hgS10 (fun b hb _ he => by injection he with he; have hb := hb.1; omega)
          refine sr_sub [(2, _, _)] (sub_cons rfl (sub_nil _)) ?_
          refine sr_nil (hK21 _ _ ?_)
          refine sc_ret (t_retv1 rfl (evr_c rfl agg_api_Node rfl (by first | exact B1.row | exact B2.row | exact B3.row | exact B5.row | exact B7.row | exact B9.row) (evr_nil)) ?_)
          first
            | exact ⟨⟨_, _, by rw [hT], by rw [hT]; exact hk5.mono fun b hb _ => Nat.le_trans hlow hb.1⟩, g⟩
            | exact ⟨by rw [hT]; exact retNd_leaf _ _ _ rfl, g⟩
            | (refine ⟨?_, g⟩; rw [foldT_eq]; unfold foldF; simp only [h1, h2, h3, h4, h7, cond_true, cond_false, Bool.and_self, Bool.and_true, Bool.and_false, Bool.false_and]; exact ⟨_, _, rfl, hk5.mono fun b hb _ => Nat.le_trans hlow hb.1⟩)
        (try simp only [bsimp] at h7)
        refine sc_skip (hK19 _ _ ?_)
        refine sc_sub [(2, _, _), (9, _, _)] (sub_cons rfl (sub_cons rfl (sub_nil _))) ?_
        refine sc_seq fun K22 hK22 => ?_
        refine sc_text [0, 2] ?_
        refine sr_rd rfl (rd_loads agg_api_Node (ev_t rfl) rfl (fun _ => B9.row)) ?_
        refine sr_store_all rfl sz_api_Node (ev_t rfl) (ev_t rfl) rfl rfl B2 rfl rfl ?_
        intro wS11 hgS11 hzS11
        clear B2
        intro B2
        replace B1 := B1.keep hgS11 (by intro h; injection h with h; first | exact x2_1 h.symm | exact x1_2 h | omega)
        replace B3 := B3.keep hgS11 (by intro h; injection h with h; first | exact x2_3 h.symm | exact x3_2 h | omega)
        replace B5 := B5.keep hgS11 (by intro h; injection h with h; first | exact x2_5 h.symm | exact x5_2 h | omega)
        replace B7 := B7.keep hgS11 (by intro h; injection h with h; first | exact x2_7 h.symm | exact x7_2 h | omega)
        replace B9 := B9.keep hgS11 (by intro h; injection h with h; first | exact x2_9 h.symm | exact x9_2 h | omega)
        have g := g_only g hgS11 (by intro k hk; injection hk with hk; omega)
        try have hk5 := hk5.keep hgS11 (fun b hb _ he => by injection he with he; have hb := hb.1; omega)
        refine sr_sub [(2, _, _)] (sub_cons rfl (sub_nil _)) ?_
        refine sr_nil (hK22 _ _ ?_)
        refine sc_ret (t_retv1 rfl (evr_c rfl agg_api_Node rfl (by first | exact B1.row | exact B2.row | exact B3.row | exact B5.row | exact B7.row | exact B9.row) (evr_nil)) ?_)
        first
          | exact ⟨⟨_, _, by rw [hT], by rw [hT]; exact hk5.mono fun b hb _ => Nat.le_trans hlow hb.1⟩, g⟩
          | exact ⟨by rw [hT]; exact retNd_leaf _ _ _ rfl, g⟩
          | (refine ⟨?_, g⟩; rw [foldT_eq]; unfold foldF; simp only [h1, h2, h3, h4, h7, cond_true, cond_false, Bool.and_self, Bool.and_true, Bool.and_false, Bool.false_and]; exact ⟨_, _, rfl, hk5.mono fun b hb _ => Nat.le_trans hlow hb.1⟩)
    (try simp only [bsimp] at h3)
    refine sc_skip (hK8 _ _ ?_)
    refine sc_sub [(1, _, _), (2, _, _)] (sub_cons rfl (sub_cons rfl (sub_nil _))) ?_
    refine sc_seq fun K23 hK23 => ?_
    refine sc_drawT none [3, 0, 3, 0, 3, 0, 3, 0, 1, 3, 1, 2] [0, 1, 0, 4, 0, 16, 0, 64, 192, 511, 0, 2047] mix (by kernel_rfl) [0, 1, 2, 3, 4, 5, 6, 7, 8, 9, 10, 11] rfl ?_
    have g := g.trans (G.drew _)
    replace B1 := B1.grow (G.drew _)
    replace B2 := B2.grow (G.drew _)
    replace B3 := B3.grow (G.drew _)
    replace B5 := B5.grow (G.drew _)
    try have hk5 := hk5.grow (G.drew _)
    refine st_pu (L' := [1, 2, 3, 4, 5, 6, 7, 8, 9, 10, 11]) 0 rfl rfl rfl (fun _ => rd_field fo_api_Node_0 (ev_t rfl)) ?_
    refine st_rd (L' := [2, 3, 4, 5, 6, 7, 8, 9, 10, 11]) 1 rfl rfl rfl (fun w1 hx => rd_load one_int (ev_t rfl) (fun _ => (B1.keep hx (by intro h; first | (injection h with h; omega) | cases h)).at_ rfl)) ?_
    refine st_pu (L' := [3, 4, 5, 6, 7, 8, 9, 10, 11]) 2 rfl rfl rfl (fun _ => rd_field fo_api_Node_1 (ev_t rfl)) ?_
    refine st_rd (L' := [4, 5, 6, 7, 8, 9, 10, 11]) 3 rfl rfl rfl (fun w1 hx => rd_load one_string (ev_t rfl) (fun _ => (B1.keep hx (by intro h; first | (injection h with h; omega) | cases h)).at_ rfl)) ?_
    refine st_pu (L' := [5, 6, 7, 8, 9, 10, 11]) 4 rfl rfl rfl (fun _ => rd_field fo_api_Node_3 (ev_t rfl)) ?_
    refine st_rd (L' := [6, 7, 8, 9, 10, 11]) 5 rfl rfl rfl (fun w1 hx => rd_load one_int (ev_t rfl) (fun _ => (B1.keep hx (by intro h; first | (injection h with h; omega) | cases h)).at_ rfl)) ?_
    refine st_pu (L' := [7, 8, 9, 10, 11]) 6 rfl rfl rfl (fun _ => rd_field fo_api_Node_4 (ev_t rfl)) ?_
    refine st_rd (L' := [8, 9, 10, 11]) 7 rfl rfl rfl (fun w1 hx => rd_load one_sl_api_Node (ev_t rfl) (fun _ => (B1.keep hx (by intro h; first | (injection h with h; omega) | cases h)).at_ rfl)) ?_
    refine st_eff2 8 10 rfl rfl ?_ ?_
    · refine ste_of_sr (L' := [9, 10, 11]) [3, 0, 3, 0, 3, 0, 3, 0, 1, 3, 1, 2] rfl rfl rfl ?_
      refine sr_call rfl (rc_call go_fold_each_api_Node ev_f (args_cons (ev_t rfl) (args_cons ev_f (args_nil))) rfl) (each_ok t.kids _ _ D _ (hk0.grow g) hf (by omega)) ?_
      rintro v69 w69 ⟨⟨p5, c5, rfl, hk5⟩, g69⟩
      refine ⟨fun _ => g69, ?_⟩
      have hlow := g.size
      have hB2 := B2.lt
      try have hB9 := B9.lt
      have g := g.trans g69
      have hk5 := hk5.lt
      replace B1 := B1.grow (g69)
      replace B2 := B2.grow (g69)
      replace B3 := B3.grow (g69)
      replace B5 := B5.grow (g69)
      try have hk5 := hk5.grow (g69)
      refine sr_nilT ((g69).only _) ?_
      refine st_pu (L' := [10, 11]) 9 rfl rfl rfl (fun _ => rd_build [_, _, _, _, _, _, _, _, _] ze_api_Node rfl pl_api_Node (parts_cons (ev_t rfl) (parts_cons (ev_t rfl) (parts_cons (ev_t rfl) (parts_cons (ev_t rfl) (parts_nil))))) rfl) ?_
      refine st_eff1 10 rfl rfl ?_
      refine ste_of_sr (L' := [11]) [3, 0, 3, 0, 3, 0, 3, 0, 1, 3, 1, 2] rfl rfl rfl ?_
      refine sr_alloc rfl ze_api_Node rfl ?_
      intro b9 w9 N9
      have x9_1 := N9.ne B1
      have x9_2 := N9.ne B2
      have x9_3 := N9.ne B3
      have x9_5 := N9.ne B5
      have l9 := N9.ge g
      have g := g.trans (N9.g)
      replace B1 := B1.grow (N9.g)
      replace B2 := B2.grow (N9.g)
      replace B3 := B3.grow (N9.g)
      replace B5 := B5.grow (N9.g)
      try have hk5 := hk5.grow (N9.g)
      have B9 := N9.blk
      refine sr_nilT ((N9.g).only _) ?_
      refine st_eff1 11 rfl rfl ?_
      refine ste2_of_sr (L' := []) [3, 0, 3, 0, 3, 0, 3, 0, 1, 3, 1, 2] rfl rfl rfl rfl ?_
      refine sr_store_all rfl sz_api_Node (ev_t rfl) (ev_t rfl) rfl rfl B9 rfl rfl ?_
      intro wS12 hgS12 hzS12
      clear B9
      intro B9
      replace B1 := B1.keep hgS12 (by intro h; injection h with h; first | exact x9_1 h.symm | exact x1_9 h | omega)
      replace B2 := B2.keep hgS12 (by intro h; injection h with h; first | exact x9_2 h.symm | exact x2_9 h | omega)
      replace B3 := B3.keep hgS12 (by intro h; injection h with h; first | exact x9_3 h.symm | exact x3_9 h | omega)
      replace B5 := B5.keep hgS12 (by intro h; injection h with h; first | exact x9_5 h.symm | exact x5_9 h | omega)
      have g := g_only g hgS12 (by intro k hk; injection hk with hk; omega)
      have e9 := N9.at_
      have hk5 := hk5.keep hgS12 (fun b hb _ he => by injection he with he; have hb1 := hb.1; have hb2 := hb.2; omega)
      refine sr_nilT2 ?_
      refine st_sub [(1, _, _), (2, _, _), (9, _, _)] (sub_cons rfl (sub_cons rfl (sub_cons rfl (sub_nil _)))) ?_
      refine st_nil (hK23 _ _ ?_)
      refine sc_seq fun K24 hK24 => ?_
      refine sc_seq fun K25 hK25 => ?_
      refine sc_text [3, 0, 3, 3, 3, 0, 3, 3] ?_
      refine sr_pu rfl (fun _ => rd_field fo_api_Node_0 (ev_t rfl)) ?_
      refine sr_rd rfl (rd_load one_int (ev_t rfl) (fun _ => B1.at_ rfl)) ?_
      refine sr_pu rfl (fun _ => rd_eq (ev_t rfl) ev_c) ?_
      refine sr_pu rfl (fun _ => rd_move (ev_t rfl)) ?_
      refine sr_pug rfl rfl rfl (fun _ => rd_field fo_api_Node_0 (ev_t rfl)) ?_
      refine sr_rdg rfl rfl rfl (rd_load one_int (ev_u rfl id) (fun _ => B1.at_ rfl)) ?_
      refine sr_pug rfl rfl rfl (fun _ => rd_eq (ev_u rfl id) ev_c) ?_
      refine sr_pu rfl (fun _ => rd_pick_or (ev_t rfl) (ev_u rfl id)) ?_
      refine sr_sub [(1, _, _), (2, _, _), (9, _, _), (78, _, _)] (sub_cons rfl (sub_cons rfl (sub_cons rfl (sub_cons rfl (sub_nil _))))) ?_
      refine sr_nil (hK25 _ _ ?_)
      refine sc_cond (ev_t rfl) (fun h8 => ?_) (fun h8 => ?_)
      · (try simp only [bsimp] at h8)
        refine sc_text [3, 0, 3, 2] ?_
        refine sr_pu rfl (fun _ => rd_field fo_api_Node_2 (ev_t rfl)) ?_
        refine sr_rd rfl (rd_load one_int (ev_t rfl) (fun _ => B1.at_ rfl)) ?_
        refine sr_pu rfl (fun _ => rd_field fo_api_Node_2 (ev_t rfl)) ?_
        refine sr_store_one rfl sz_int (ev_t rfl) (ev_t rfl) rfl B9 rfl rfl ?_
        intro wS13 hgS13 hzS13
        clear B9
        intro B9
        replace B1 := B1.keep hgS13 (by intro h; injection h with h; first | exact x9_1 h.symm | exact x1_9 h | omega)
        replace B2 := B2.keep hgS13 (by intro h; injection h with h; first | exact x9_2 h.symm | exact x2_9 h | omega)
        replace B3 := B3.keep hgS13 (by intro h; injection h with h; first | exact x9_3 h.symm | exact x3_9 h | omega)
        replace B5 := B5.keep hgS13 (by intro h; injection h with h; first | exact x9_5 h.symm | exact x5_9 h | omega)
        have g := g_only g hgS13 (by intro k hk; injection hk with hk; omega)
        have hk5 := hk5.keep hgS13 (fun b hb _ he => by injection he with he; have hb1 := hb.1; have hb2 := hb.2; omega)
        refine sr_sub [(2, _, _), (9, _, _)] (sub_cons rfl (sub_cons rfl (sub_nil _))) ?_
        refine sr_nil (hK24 _ _ ?_)
        refine sc_seq fun K26 hK26 => ?_
        refine sc_text [0, 2] ?_
        refine sr_rd rfl (rd_loads agg_api_Node (ev_t rfl) rfl (fun _ => B9.row)) ?_
        refine sr_store_all rfl sz_api_Node (ev_t rfl) (ev_t rfl) rfl rfl B2 rfl rfl ?_
        intro wS14 hgS14 hzS14
        clear B2
        intro B2
        replace B1 := B1.keep hgS14 (by intro h; injection h with h; first | exact x2_1 h.symm | exact x1_2 h | omega)
        replace B3 := B3.keep hgS14 (by intro h; injection h with h; first | exact x2_3 h.symm | exact x3_2 h | omega)
        replace B5 := B5.keep hgS14 (by intro h; injection h with h; first | exact x2_5 h.symm | exact x5_2 h | omega)
        replace B9 := B9.keep hgS14 (by intro h; injection h with h; first | exact x2_9 h.symm | exact x9_2 h | omega)
        have g := g_only g hgS14 (by intro k hk; injection hk with hk; omega)
        try have hk5 := hk5.keep hgS14 (fun b hb _ he => by injection he with he; have hb := hb.1; omega)
        refine sr_sub [(2, _, _)] (sub_cons rfl (sub_nil _)) ?_
        refine sr_nil (hK26 _ _ ?_)
        refine sc_ret (t_retv1 rfl (evr_c rfl agg_api_Node rfl (by first | exact B1.row | exact B2.row | exact B3.row | exact B5.row | exact B9.row) (evr_nil)) ?_)
        first
          | exact ⟨⟨_, _, by rw [hT], by rw [hT]; exact hk5.mono fun b hb _ => Nat.le_trans hlow hb.1⟩, g⟩
          | exact ⟨by rw [hT]; exact retNd_leaf _ _ _ rfl, g⟩
          | (refine ⟨?_, g⟩; rw [foldT_eq]; unfold foldF; simp only [h1, h2, h3, h8, cond_true, cond_false, Bool.and_self, Bool.and_true, Bool.and_false, Bool.false_and]; exact ⟨_, _, rfl, hk5.mono fun b hb _ => Nat.le_trans hlow hb.1⟩)
      (try simp only [bsimp] at h8)
      refine sc_skip (hK24 _ _ ?_)
      refine sc_sub [(2, _, _), (9, _, _)] (sub_cons rfl (sub_cons rfl (sub_nil _))) ?_
      refine sc_seq fun K27 hK27 => ?_
      refine sc_text [0, 2] ?_
      refine sr_rd rfl (rd_loads agg_api_Node (ev_t rfl) rfl (fun _ => B9.row)) ?_
      refine sr_store_all rfl sz_api_Node (ev_t rfl) (ev_t rfl) rfl rfl B2 rfl rfl ?_
      intro wS15 hgS15 hzS15
      clear B2
      intro B2
      replace B1 := B1.keep hgS15 (by intro h; injection h with h; first | exact x2_1 h.symm | exact x1_2 h | omega)
      replace B3 := B3.keep hgS15 (by intro h; injection h with h; first | exact x2_3 h.symm | exact x3_2 h | omega)
      replace B5 := B5.keep hgS15 (by intro h; injection h with h; first | exact x2_5 h.symm | exact x5_2 h | omega)
      replace B9 := B9.keep hgS15 (by intro h; injection h with h; first | exact x2_9 h.symm | exact x9_2 h | omega)
      have g := g_only g hgS15 (by intro k hk; injection hk with hk; omega)
      try have hk5 := hk5.keep hgS15 (fun b hb _ he => by injection he with he; have hb := hb.1; omega)
      refine sr_sub [(2, _, _)] (sub_cons rfl (sub_nil _)) ?_
      refine sr_nil (hK27 _ _ ?_)
      refine sc_ret (t_retv1 rfl (evr_c rfl agg_api_Node rfl (by first | exact B1.row | exact B2.row | exact B3.row | exact B5.row | exact B9.row) (evr_nil)) ?_)
      first
        | exact ⟨⟨_, _, by rw [hT], by rw [hT]; exact hk5.mono fun b hb _ => Nat.le_trans hlow hb.1⟩, g⟩
        | exact ⟨by rw [hT]; exact retNd_leaf _ _ _ rfl, g⟩
        | (refine ⟨?_, g⟩; rw [foldT_eq]; unfold foldF; simp only [h1, h2, h3, h8, cond_true, cond_false, Bool.and_self, Bool.and_true, Bool.and_false, Bool.false_and]; exact ⟨_, _, rfl, hk5.mono fun b hb _ => Nat.le_trans hlow hb.1⟩)
    · refine ste_of_sr (L' := [8, 9, 11]) [3, 0, 3, 0, 3, 0, 3, 0, 1, 3, 1, 2] rfl rfl rfl ?_
      refine sr_alloc rfl ze_api_Node rfl ?_
      intro b9 w9 N9
      have x9_1 := N9.ne B1
      have x9_2 := N9.ne B2
      have x9_3 := N9.ne B3
      have x9_5 := N9.ne B5
      have l9 := N9.ge g
      have g := g.trans (N9.g)
      replace B1 := B1.grow (N9.g)
      replace B2 := B2.grow (N9.g)
      replace B3 := B3.grow (N9.g)
      replace B5 := B5.grow (N9.g)
      try have hk5 := hk5.grow (N9.g)
      have B9 := N9.blk
      refine sr_nilT ((N9.g).only _) ?_
      refine st_eff1 8 rfl rfl ?_
      refine ste_of_sr (L' := [9, 11]) [3, 0, 3, 0, 3, 0, 3, 0, 1, 3, 1, 2] rfl rfl rfl ?_
      refine sr_call rfl (rc_call go_fold_each_api_Node ev_f (args_cons (ev_t rfl) (args_cons ev_f (args_nil))) rfl) (each_ok t.kids _ _ D _ (hk0.grow g) hf (by omega)) ?_
      rintro v69 w69 ⟨⟨p5, c5, rfl, hk5⟩, g69⟩
      refine ⟨fun _ => g69, ?_⟩
      have hlow := g.size
      have hB2 := B2.lt
      try have hB9 := B9.lt
      have g := g.trans g69
      have hk5 := hk5.lt
      replace B1 := B1.grow (g69)
      replace B2 := B2.grow (g69)
      replace B3 := B3.grow (g69)
      replace B5 := B5.grow (g69)
      replace B9 := B9.grow (g69)
      try have hk5 := hk5.grow (g69)
      refine sr_nilT ((g69).only _) ?_
      refine st_pu (L' := [11]) 9 rfl rfl rfl (fun _ => rd_build [_, _, _, _, _, _, _, _, _] ze_api_Node rfl pl_api_Node (parts_cons (ev_t rfl) (parts_cons (ev_t rfl) (parts_cons (ev_t rfl) (parts_cons (ev_t rfl) (parts_nil))))) rfl) ?_
      refine st_eff1 11 rfl rfl ?_
      refine ste2_of_sr (L' := []) [3, 0, 3, 0, 3, 0, 3, 0, 1, 3, 1, 2] rfl rfl rfl rfl ?_
      refine sr_store_all rfl sz_api_Node (ev_t rfl) (ev_t rfl) rfl rfl B9 rfl rfl ?_
      intro wS12 hgS12 hzS12
      clear B9
      intro B9
      replace B1 := B1.keep hgS12 (by intro h; injection h with h; first | exact x9_1 h.symm | exact x1_9 h | omega)
      replace B2 := B2.keep hgS12 (by intro h; injection h with h; first | exact x9_2 h.symm | exact x2_9 h | omega)
      replace B3 := B3.keep hgS12 (by intro h; injection h with h; first | exact x9_3 h.symm | exact x3_9 h | omega)
      replace B5 := B5.keep hgS12 (by intro h; injection h with h; first | exact x9_5 h.symm | exact x5_9 h | omega)
      have g := g_only g hgS12 (by intro k hk; injection hk with hk; omega)
      have e9 := N9.at_
      have hk5 := hk5.keep hgS12 (fun b hb _ he => by injection he with he; have hb1 := hb.1; have hb2 := hb.2; omega)
      refine sr_nilT2 ?_
      refine st_sub [(1, _, _), (2, _, _), (9, _, _)] (sub_cons rfl (sub_cons rfl (sub_cons rfl (sub_nil _)))) ?_
      refine st_nil (hK23 _ _ ?_)
      refine sc_seq fun K24 hK24 => ?_
      refine sc_seq fun K25 hK25 => ?_
      refine sc_text [3, 0, 3, 3, 3, 0, 3, 3] ?_
      refine sr_pu rfl (fun _ => rd_field fo_api_Node_0 (ev_t rfl)) ?_
      refine sr_rd rfl (rd_load one_int (ev_t rfl) (fun _ => B1.at_ rfl)) ?_
      refine sr_pu rfl (fun _ => rd_eq (ev_t rfl) ev_c) ?_
      refine sr_pu rfl (fun _ => rd_move (ev_t rfl)) ?_
      refine sr_pug rfl rfl rfl (fun _ => rd_field fo_api_Node_0 (ev_t rfl)) ?_
      refine sr_rdg rfl rfl rfl (rd_load one_int (ev_u rfl id) (fun _ => B1.at_ rfl)) ?_
      refine sr_pug rfl rfl rfl (fun _ => rd_eq (ev_u rfl id) ev_c) ?_
      refine sr_pu rfl (fun _ => rd_pick_or (ev_t rfl) (ev_u rfl id)) ?_
      refine sr_sub [(1, _, _), (2, _, _), (9, _, _), (78, _, _)] (sub_cons rfl (sub_cons rfl (sub_cons rfl (sub_cons rfl (sub_nil _))))) ?_
      refine sr_nil (hK25 _ _ ?_)
      refine sc_cond (ev_t rfl) (fun h8 => ?_) (fun h8 => ?_)
      · (try simp only [bsimp] at h8)
        refine sc_text [3, 0, 3, 2] ?_
        refine sr_pu rfl (fun _ => rd_field fo_api_Node_2 (ev_t rfl)) ?_
        refine sr_rd rfl (rd_load one_int (ev_t rfl) (fun _ => B1.at_ rfl)) ?_
        refine sr_pu rfl (fun _ => rd_field fo_api_Node_2 (ev_t rfl)) ?_
        refine sr_store_one rfl sz_int (ev_t rfl) (ev_t rfl) rfl B9 rfl rfl ?_
        intro wS13 hgS13 hzS13
        clear B9
        intro B9
        replace B1 := B1.keep hgS13 (by intro h; injection h with h; first | exact x9_1 h.symm | exact x1_9 h | omega)
        replace B2 := B2.keep hgS13 (by intro h; injection h with h; first | exact x9_2 h.symm | exact x2_9 h | omega)
        replace B3 := B3.keep hgS13 (by intro h; injection h with h; first | exact x9_3 h.symm | exact x3_9 h | omega)
        replace B5 := B5.keep hgS13 (by intro h; injection h with h; first | exact x9_5 h.symm | exact x5_9 h | omega)
        have g := g_only g hgS13 (by intro k hk; injection hk with hk; omega)
        have hk5 := hk5.keep hgS13 (fun b hb _ he => by injection he with he; have hb1 := hb.1; have hb2 := hb.2; omega)
        refine sr_sub [(2, _, _), (9, _, _)] (sub_cons rfl (sub_cons rfl (sub_nil _))) ?_
        refine sr_nil (hK24 _ _ ?_)
        refine sc_seq fun K26 hK26 => ?_
        refine sc_text [0, 2] ?_
        refine sr_rd rfl (rd_loads agg_api_Node (ev_t rfl) rfl (fun _ => B9.row)) ?_
        refine sr_store_all rfl sz_api_Node (ev_t rfl) (ev_t rfl) rfl rfl B2 rfl rfl ?_
        intro wS14 hgS14 hzS14
        clear B2
        intro B2
        replace B1 := B1.keep hgS14 (by intro h; injection h with h; first | exact x2_1 h.symm | exact x1_2 h | omega)
        replace B3 := B3.keep hgS14 (by intro h; injection h with h; first | exact x2_3 h.symm | exact x3_2 h | omega)
        replace B5 := B5.keep hgS14 (by intro h; injection h with h; first | exact x2_5 h.symm | exact x5_2 h | omega)
        replace B9 := B9.keep hgS14 (by intro h; injection h with h; first | exact x2_9 h.symm | exact x9_2 h | omega)
        have g := g_only g hgS14 (by intro k hk; injection hk with hk; omega)
        try have hk5 := hk5.keep hgS14 (fun b hb _ he => by injection he with he; have hb := hb.1; omega)
        refine sr_sub [(2, _, _)] (sub_cons rfl (sub_nil _)) ?_
        refine sr_nil (hK26 _ _ ?_)
        refine sc_ret (t_retv1 rfl (evr_c rfl agg_api_Node rfl (by first | exact B1.row | exact B2.row | exact B3.row | exact B5.row | exact B9.row) (evr_nil)) ?_)
        first
          | exact ⟨⟨_, _, by rw [hT], by rw [hT]; exact hk5.mono fun b hb _ => Nat.le_trans hlow hb.1⟩, g⟩
          | exact ⟨by rw [hT]; exact retNd_leaf _ _ _ rfl, g⟩
          | (refine ⟨?_, g⟩; rw [foldT_eq]; unfold foldF; simp only [h1, h2, h3, h8, cond_true, cond_false, Bool.and_self, Bool.and_true, Bool.and_false, Bool.false_and]; exact ⟨_, _, rfl, hk5.mono fun b hb _ => Nat.le_trans hlow hb.1⟩)
      (try simp only [bsimp] at h8)
      refine sc_skip (hK24 _ _ ?_)
      refine sc_sub [(2, _, _), (9, _, _)] (sub_cons rfl (sub_cons rfl (sub_nil _))) ?_
      refine sc_seq fun K27 hK27 => ?_
      refine sc_text [0, 2] ?_
      refine sr_rd rfl (rd_loads agg_api_Node (ev_t rfl) rfl (fun _ => B9.row)) ?_
      refine sr_store_all rfl sz_api_Node (ev_t rfl) (ev_t rfl) rfl rfl B2 rfl rfl ?_
      intro wS15 hgS15 hzS15
      clear B2
      intro B2
      replace B1 := B1.keep hgS15 (by intro h; injection h with h; first | exact x2_1 h.symm | exact x1_2 h | omega)
      replace B3 := B3.keep hgS15 (by intro h; injection h with h; first | exact x2_3 h.symm | exact x3_2 h | omega)
      replace B5 := B5.keep hgS15 (by intro h; injection h with h; first | exact x2_5 h.symm | exact x5_2 h | omega)
      replace B9 := B9.keep hgS15 (by intro h; injection h with h; first | exact x2_9 h.symm | exact x9_2 h | omega)
      have g := g_only g hgS15 (by intro k hk; injection hk with hk; omega)
      try have hk5 := hk5.keep hgS15 (fun b hb _ he => by injection he with he; have hb := hb.1; omega)
      refine sr_sub [(2, _, _)] (sub_cons rfl (sub_nil _)) ?_
      refine sr_nil (hK27 _ _ ?_)
      refine sc_ret (t_retv1 rfl (evr_c rfl agg_api_Node rfl (by first | exact B1.row | exact B2.row | exact B3.row | exact B5.row | exact B9.row) (evr_nil)) ?_)
      first
        | exact ⟨⟨_, _, by rw [hT], by rw [hT]; exact hk5.mono fun b hb _ => Nat.le_trans hlow hb.1⟩, g⟩
        | exact ⟨by rw [hT]; exact retNd_leaf _ _ _ rfl, g⟩
        | (refine ⟨?_, g⟩; rw [foldT_eq]; unfold foldF; simp only [h1, h2, h3, h8, cond_true, cond_false, Bool.and_self, Bool.and_true, Bool.and_false, Bool.false_and]; exact ⟨_, _, rfl, hk5.mono fun b hb _ => Nat.le_trans hlow hb.1⟩)
  (try simp only [bsimp] at h1)
  refine sc_skip (hK2 _ _ ?_)
  refine sc_sub [(1, _, _), (2, _, _)] (sub_cons rfl (sub_cons rfl (sub_nil _))) ?_
  refine sc_seq fun K28 hK28 => ?_
  refine sc_seq fun K29 hK29 => ?_
  refine sc_text [3, 0, 3] ?_
  refine sr_pu rfl (fun _ => rd_field fo_api_Node_0 (ev_t rfl)) ?_
  refine sr_rd rfl (rd_load one_int (ev_t rfl) (fun _ => B1.at_ rfl)) ?_
  refine sr_pu rfl (fun _ => rd_eq (ev_t rfl) ev_c) ?_
  refine sr_sub [(1, _, _), (2, _, _), (27, _, _)] (sub_cons rfl (sub_cons rfl (sub_cons rfl (sub_nil _)))) ?_
  refine sr_nil (hK29 _ _ ?_)
  refine sc_cond (ev_t rfl) (fun h9 => ?_) (fun h9 => ?_)
  · (try simp only [bsimp] at h9)
    refine sc_seq fun K30 hK30 => ?_
    refine sc_text [3, 0, 3, 0, 1, 3, 3, 3, 1, 2, 3] ?_
    have hl3 := hl18 (by simpa using h9)
    refine sr_pu rfl (fun _ => rd_field fo_api_Node_4 (ev_t rfl)) ?_
    refine sr_rd rfl (rd_load one_sl_api_Node (ev_t rfl) (fun _ => B1.at_ rfl)) ?_
    refine sr_pu rfl (fun _ => rd_idxq el_sl_api_Node (ev_t rfl) ev_c (fun _ => by omega) (fun _ => (h0x (by omega)).1)) ?_
    refine sr_rd rfl (rd_loads agg_api_Node (ev_t rfl) rfl (fun _ => (h0x (by omega)).2.1.grow g)) ?_
    refine sr_pure rfl (rc_call go_fold_value ev_f (args_cons (ev_t rfl) (args_nil)) rfl) (fvalue_ok (kidAt t 0) _ D _ ((h0x (by omega)).2.2.grow g)) (fun w33 g33 => ?_)
    have g := g.trans (g33)
    replace B1 := B1.grow (g33)
    replace B2 := B2.grow (g33)
    replace B3 := B3.grow (g33)
    try have hk5 := hk5.grow (g33)
    refine sr_pu rfl (fun _ => rd_move (ev_t rfl)) ?_
    refine sr_pu rfl (fun _ => rd_extract (ev_t rfl) rfl) ?_
    refine sr_pu rfl (fun _ => rd_extract (ev_t rfl) rfl) ?_
    refine sr_alloc rfl ze_fold_constant rfl ?_
    intro b7 w7 N7
    have x7_1 := N7.ne B1
    have x7_2 := N7.ne B2
    have x7_3 := N7.ne B3
    have l7 := N7.ge g
    have g := g.trans (N7.g)
    replace B1 := B1.grow (N7.g)
    replace B2 := B2.grow (N7.g)
    replace B3 := B3.grow (N7.g)
    try have hk5 := hk5.grow (N7.g)
    have B7 := N7.blk
    refine sr_store_all rfl sz_fold_constant (ev_t rfl) (ev_t rfl) rfl rfl B7 rfl rfl ?_
    intro wS16 hgS16 hzS16
    clear B7
    intro B7
    replace B1 := B1.keep hgS16 (by intro h; injection h with h; first | exact x7_1 h.symm | exact x1_7 h | omega)
    replace B2 := B2.keep hgS16 (by intro h; injection h with h; first | exact x7_2 h.symm | exact x2_7 h | omega)
    replace B3 := B3.keep hgS16 (by intro h; injection h with h; first | exact x7_3 h.symm | exact x3_7 h | omega)
    have g := g_only g hgS16 (by intro k hk; injection hk with hk; omega)
    refine sr_pu rfl (fun _ => rd_assign (ev_t rfl)) ?_
    refine sr_sub [(1, _, _), (2, _, _), (7, _, _), (8, _, _)] (sub_cons rfl (sub_cons rfl (sub_cons rfl (sub_cons rfl (sub_nil _))))) ?_
    refine sr_nil (hK30 _ _ ?_)
    refine sc_seq fun K31 hK31 => ?_
    refine sc_text [3] ?_
    refine sr_pu rfl (fun _ => rd_move (ev_t rfl)) ?_
    refine sr_sub [(1, _, _), (2, _, _), (7, _, _), (36, _, _)] (sub_cons rfl (sub_cons rfl (sub_cons rfl (sub_cons rfl (sub_nil _))))) ?_
    refine sr_nil (hK31 _ _ ?_)
    refine sc_cond (ev_t rfl) (fun h10 => ?_) (fun h10 => ?_)
    · (try simp only [bsimp] at h10)
      refine sc_seq fun K32 hK32 => ?_
      refine sc_block ?_
      refine sc_seq fun K33 hK33 => ?_
      refine sc_text [3, 0, 3, 3] ?_
      refine sr_pu rfl (fun _ => rd_field fo_fold_constant_1 (ev_t rfl)) ?_
      refine sr_rd rfl (rd_load one_int (ev_t rfl) (fun _ => B7.at_ rfl)) ?_
      refine sr_pu rfl (fun _ => rd_eq (ev_t rfl) ev_c) ?_
      refine sr_pu rfl (fun _ => rd_assign (ev_t rfl)) ?_
      refine sr_sub [(1, _, _), (2, _, _), (37, _, _)] (sub_cons rfl (sub_cons rfl (sub_cons rfl (sub_nil _)))) ?_
      refine sr_nil (hK33 _ _ ?_)
      refine sc_cond (ev_t rfl) (fun h11 => ?_) (fun h11 => ?_)
      · (try simp only [bsimp] at h11)
        refine sc_seq fun K34 hK34 => ?_
        refine sc_text [3, 0, 3, 0, 1, 2] ?_
        have hT : foldT t = foldT (kidAt t 1) := by rw [foldT_eq t]; unfold foldF; simp only [h1, h9, h10, h11, cond_true, cond_false, Bool.and_self, Bool.and_true, Bool.and_false, Bool.false_and]; exact getD_fold (by omega)
        refine sr_pu rfl (fun _ => rd_field fo_api_Node_4 (ev_t rfl)) ?_
        refine sr_rd rfl (rd_load one_sl_api_Node (ev_t rfl) (fun _ => B1.at_ rfl)) ?_
        refine sr_pu rfl (fun _ => rd_idxq el_sl_api_Node (ev_t rfl) ev_c (fun _ => by omega) (fun _ => (h1x (by omega)).1)) ?_
        refine sr_rd rfl (rd_loads agg_api_Node (ev_t rfl) rfl (fun _ => (h1x (by omega)).2.1.grow g)) ?_
        refine sr_call rfl (rc_call go_fold_fold ev_f (args_cons (ev_t rfl) (args_nil)) rfl) (hfi 1 (by omega) _ D _ ((h1x (by omega)).2.2.grow g)) ?_
        rintro v45 w45 ⟨⟨p5, c5, rfl, hk5⟩, g45⟩
        refine ⟨fun _ => g45, ?_⟩
        have hlow := g.size
        have hB2 := B2.lt
        have g := g.trans g45
        have hk5 := hk5.lt
        replace B1 := B1.grow (g45)
        replace B2 := B2.grow (g45)
        replace B3 := B3.grow (g45)
        replace B7 := B7.grow (g45)
        try have hk5 := hk5.grow (g45)
        refine sr_store_all rfl sz_api_Node (ev_t rfl) (ev_t rfl) rfl rfl B2 rfl rfl ?_
        intro wS17 hgS17 hzS17
        clear B2
        intro B2
        replace B1 := B1.keep hgS17 (by intro h; injection h with h; first | exact x2_1 h.symm | exact x1_2 h | omega)
        replace B3 := B3.keep hgS17 (by intro h; injection h with h; first | exact x2_3 h.symm | exact x3_2 h | omega)
        replace B7 := B7.keep hgS17 (by intro h; injection h with h; first | exact x2_7 h.symm | exact x7_2 h | omega)
        have g := g_only g hgS17 (by intro k hk; injection hk with hk; omega)
        try have hk5 := hk5.keep hgS17 (fun b hb _ he => by injection he with he; have hb := hb.1; omega)
        refine sr_sub [(1, _, _), (2, _, _)] (sub_cons rfl (sub_cons rfl (sub_nil _))) ?_
        refine sr_nil (hK34 _ _ ?_)
        refine sc_ret (t_retv1 rfl (evr_c rfl agg_api_Node rfl (by first | exact B1.row | exact B2.row | exact B3.row | exact B7.row) (evr_nil)) ?_)
        first
          | exact ⟨⟨_, _, by rw [hT], by rw [hT]; exact hk5.mono fun b hb _ => Nat.le_trans hlow hb.1⟩, g⟩
          | exact ⟨by rw [hT]; exact retNd_leaf _ _ _ rfl, g⟩
          | (refine ⟨?_, g⟩; rw [foldT_eq]; unfold foldF; simp only [h1, h9, h10, h11, cond_true, cond_false, Bool.and_self, Bool.and_true, Bool.and_false, Bool.false_and]; exact ⟨_, _, rfl, hk5.mono fun b hb _ => Nat.le_trans hlow hb.1⟩)
      (try simp only [bsimp] at h11)
      refine sc_seq fun K35 hK35 => ?_
      refine sc_text [3, 0, 3, 3, 0, 3, 3] ?_
      refine sr_pu rfl (fun _ => rd_field fo_api_Node_4 (ev_t rfl)) ?_
      refine sr_rd rfl (rd_load one_sl_api_Node (ev_t rfl) (fun _ => B1.at_ rfl)) ?_
      refine sr_pu rfl (fun _ => rd_idxq el_sl_api_Node (ev_t rfl) ev_c (fun _ => by omega) (fun _ => (h2x (by omega)).1)) ?_
      refine sr_pu rfl (fun _ => rd_field fo_api_Node_0 (ev_t rfl)) ?_
      refine sr_rd rfl (rd_load one_int (ev_t rfl) (fun _ => ((h2x (by omega)).2.1.grow g) 0 _ rfl)) ?_
      refine sr_pu rfl (fun _ => rd_eq (ev_t rfl) ev_c) ?_
      refine sr_pu rfl (fun _ => rd_assign (ev_t rfl)) ?_
      refine sr_sub [(1, _, _), (2, _, _), (46, _, _)] (sub_cons rfl (sub_cons rfl (sub_cons rfl (sub_nil _)))) ?_
      refine sr_nil (hK35 _ _ ?_)
      refine sc_cond (ev_t rfl) (fun h12 => ?_) (fun h12 => ?_)
      · (try simp only [bsimp] at h12)
        refine sc_seq fun K36 hK36 => ?_
        refine sc_text [3, 0, 3, 2] ?_
        have hT : foldT t = .mk 10 [] 0 t.pos [] ty0 0 0 := by rw [foldT_eq t]; unfold foldF; simp only [h1, h9, h10, h11, h12, cond_true, cond_false, Bool.and_self, Bool.and_true, Bool.and_false, Bool.false_and]
        refine sr_pu rfl (fun _ => rd_field fo_api_Node_3 (ev_t rfl)) ?_
        refine sr_rd rfl (rd_load one_int (ev_t rfl) (fun _ => B1.at_ rfl)) ?_
        refine sr_pu rfl (fun _ => rd_build [_, _, _, _, _, _, _, _, _] ze_api_Node rfl pl_api_Node (parts_cons ev_c (parts_cons (ev_t rfl) (parts_nil))) rfl) ?_
        refine sr_store_all rfl sz_api_Node (ev_t rfl) (ev_t rfl) rfl rfl B2 rfl rfl ?_
        intro wS18 hgS18 hzS18
        clear B2
        intro B2
        replace B1 := B1.keep hgS18 (by intro h; injection h with h; first | exact x2_1 h.symm | exact x1_2 h | omega)
        replace B3 := B3.keep hgS18 (by intro h; injection h with h; first | exact x2_3 h.symm | exact x3_2 h | omega)
        replace B7 := B7.keep hgS18 (by intro h; injection h with h; first | exact x2_7 h.symm | exact x7_2 h | omega)
        have g := g_only g hgS18 (by intro k hk; injection hk with hk; omega)
        try have hk5 := hk5.keep hgS18 (fun b hb _ he => by injection he with he; have hb := hb.1; omega)
        refine sr_sub [(1, _, _), (2, _, _)] (sub_cons rfl (sub_cons rfl (sub_nil _))) ?_
        refine sr_nil (hK36 _ _ ?_)
        refine sc_ret (t_retv1 rfl (evr_c rfl agg_api_Node rfl (by first | exact B1.row | exact B2.row | exact B3.row | exact B7.row) (evr_nil)) ?_)
        first
          | exact ⟨⟨_, _, by rw [hT], by rw [hT]; exact hk5.mono fun b hb _ => Nat.le_trans hlow hb.1⟩, g⟩
          | exact ⟨by rw [hT]; exact retNd_leaf _ _ _ rfl, g⟩
          | (refine ⟨?_, g⟩; rw [foldT_eq]; unfold foldF; simp only [h1, h9, h10, h11, h12, cond_true, cond_false, Bool.and_self, Bool.and_true, Bool.and_false, Bool.false_and]; exact ⟨_, _, rfl, hk5.mono fun b hb _ => Nat.le_trans hlow hb.1⟩)
      (try simp only [bsimp] at h12)
      refine sc_skip (hK32 _ _ ?_)
      refine sc_sub [(1, _, _), (2, _, _)] (sub_cons rfl (sub_cons rfl (sub_nil _))) ?_
      refine sc_seq fun K37 hK37 => ?_
      refine sc_text [3, 0, 3, 0, 1, 2] ?_
      have hT : foldT t = foldT (kidAt t 2) := by rw [foldT_eq t]; unfold foldF; simp only [h1, h9, h10, h11, h12, cond_true, cond_false, Bool.and_self, Bool.and_true, Bool.and_false, Bool.false_and]; exact getD_fold (by omega)
      refine sr_pu rfl (fun _ => rd_field fo_api_Node_4 (ev_t rfl)) ?_
      refine sr_rd rfl (rd_load one_sl_api_Node (ev_t rfl) (fun _ => B1.at_ rfl)) ?_
      refine sr_pu rfl (fun _ => rd_idxq el_sl_api_Node (ev_t rfl) ev_c (fun _ => by omega) (fun _ => (h2x (by omega)).1)) ?_
      refine sr_rd rfl (rd_loads agg_api_Node (ev_t rfl) rfl (fun _ => (h2x (by omega)).2.1.grow g)) ?_
      refine sr_call rfl (rc_call go_fold_fold ev_f (args_cons (ev_t rfl) (args_nil)) rfl) (hfi 2 (by omega) _ D _ ((h2x (by omega)).2.2.grow g)) ?_
      rintro v60 w60 ⟨⟨p5, c5, rfl, hk5⟩, g60⟩
      refine ⟨fun _ => g60, ?_⟩
      have hlow := g.size
      have hB2 := B2.lt
      have g := g.trans g60
      have hk5 := hk5.lt
      replace B1 := B1.grow (g60)
      replace B2 := B2.grow (g60)
      replace B3 := B3.grow (g60)
      replace B7 := B7.grow (g60)
      try have hk5 := hk5.grow (g60)
      refine sr_store_all rfl sz_api_Node (ev_t rfl) (ev_t rfl) rfl rfl B2 rfl rfl ?_
      intro wS19 hgS19 hzS19
      clear B2
      intro B2
      replace B1 := B1.keep hgS19 (by intro h; injection h with h; first | exact x2_1 h.symm | exact x1_2 h | omega)
      replace B3 := B3.keep hgS19 (by intro h; injection h with h; first | exact x2_3 h.symm | exact x3_2 h | omega)
      replace B7 := B7.keep hgS19 (by intro h; injection h with h; first | exact x2_7 h.symm | exact x7_2 h | omega)
      have g := g_only g hgS19 (by intro k hk; injection hk with hk; omega)
      try have hk5 := hk5.keep hgS19 (fun b hb _ he => by injection he with he; have hb := hb.1; omega)
      refine sr_nil (hK37 _ _ ?_)
      refine sc_ret (t_retv1 rfl (evr_c rfl agg_api_Node rfl (by first | exact B1.row | exact B2.row | exact B3.row | exact B7.row) (evr_nil)) ?_)
      first
        | exact ⟨⟨_, _, by rw [hT], by rw [hT]; exact hk5.mono fun b hb _ => Nat.le_trans hlow hb.1⟩, g⟩
        | exact ⟨by rw [hT]; exact retNd_leaf _ _ _ rfl, g⟩
        | (refine ⟨?_, g⟩; rw [foldT_eq]; unfold foldF; simp only [h1, h9, h10, h11, h12, cond_true, cond_false, Bool.and_self, Bool.and_true, Bool.and_false, Bool.false_and]; exact ⟨_, _, rfl, hk5.mono fun b hb _ => Nat.le_trans hlow hb.1⟩)
    (try simp only [bsimp] at h10)
    refine sc_skip (hK28 _ _ ?_)
    refine sc_sub [(1, _, _), (2, _, _)] (sub_cons rfl (sub_cons rfl (sub_nil _))) ?_
    refine sc_seq fun K38 hK38 => ?_
    refine sc_drawT none [3, 0, 3, 0, 3, 0, 3, 0, 1, 3, 1, 2] [0, 1, 0, 4, 0, 16, 0, 64, 192, 511, 0, 2047] mix (by kernel_rfl) [0, 1, 2, 3, 4, 5, 6, 7, 8, 9, 10, 11] rfl ?_
    have g := g.trans (G.drew _)
    replace B1 := B1.grow (G.drew _)
    replace B2 := B2.grow (G.drew _)
    replace B3 := B3.grow (G.drew _)
    replace B7 := B7.grow (G.drew _)
    try have hk5 := hk5.grow (G.drew _)
    refine st_pu (L' := [1, 2, 3, 4, 5, 6, 7, 8, 9, 10, 11]) 0 rfl rfl rfl (fun _ => rd_field fo_api_Node_0 (ev_t rfl)) ?_
    refine st_rd (L' := [2, 3, 4, 5, 6, 7, 8, 9, 10, 11]) 1 rfl rfl rfl (fun w1 hx => rd_load one_int (ev_t rfl) (fun _ => (B1.keep hx (by intro h; first | (injection h with h; omega) | cases h)).at_ rfl)) ?_
    refine st_pu (L' := [3, 4, 5, 6, 7, 8, 9, 10, 11]) 2 rfl rfl rfl (fun _ => rd_field fo_api_Node_1 (ev_t rfl)) ?_
    refine st_rd (L' := [4, 5, 6, 7, 8, 9, 10, 11]) 3 rfl rfl rfl (fun w1 hx => rd_load one_string (ev_t rfl) (fun _ => (B1.keep hx (by intro h; first | (injection h with h; omega) | cases h)).at_ rfl)) ?_
    refine st_pu (L' := [5, 6, 7, 8, 9, 10, 11]) 4 rfl rfl rfl (fun _ => rd_field fo_api_Node_3 (ev_t rfl)) ?_
    refine st_rd (L' := [6, 7, 8, 9, 10, 11]) 5 rfl rfl rfl (fun w1 hx => rd_load one_int (ev_t rfl) (fun _ => (B1.keep hx (by intro h; first | (injection h with h; omega) | cases h)).at_ rfl)) ?_
    refine st_pu (L' := [7, 8, 9, 10, 11]) 6 rfl rfl rfl (fun _ => rd_field fo_api_Node_4 (ev_t rfl)) ?_
    refine st_rd (L' := [8, 9, 10, 11]) 7 rfl rfl rfl (fun w1 hx => rd_load one_sl_api_Node (ev_t rfl) (fun _ => (B1.keep hx (by intro h; first | (injection h with h; omega) | cases h)).at_ rfl)) ?_
    refine st_eff2 8 10 rfl rfl ?_ ?_
    · refine ste_of_sr (L' := [9, 10, 11]) [3, 0, 3, 0, 3, 0, 3, 0, 1, 3, 1, 2] rfl rfl rfl ?_
      refine sr_call rfl (rc_call go_fold_each_api_Node ev_f (args_cons (ev_t rfl) (args_cons ev_f (args_nil))) rfl) (each_ok t.kids _ _ D _ (hk0.grow g) hf (by omega)) ?_
      rintro v69 w69 ⟨⟨p5, c5, rfl, hk5⟩, g69⟩
      refine ⟨fun _ => g69, ?_⟩
      have hlow := g.size
      have hB2 := B2.lt
      try have hB9 := B9.lt
      have g := g.trans g69
      have hk5 := hk5.lt
      replace B1 := B1.grow (g69)
      replace B2 := B2.grow (g69)
      replace B3 := B3.grow (g69)
      replace B7 := B7.grow (g69)
      try have hk5 := hk5.grow (g69)
      refine sr_nilT ((g69).only _) ?_
      refine st_pu (L' := [10, 11]) 9 rfl rfl rfl (fun _ => rd_build [_, _, _, _, _, _, _, _, _] ze_api_Node rfl pl_api_Node (parts_cons (ev_t rfl) (parts_cons (ev_t rfl) (parts_cons (ev_t rfl) (parts_cons (ev_t rfl) (parts_nil))))) rfl) ?_
      refine st_eff1 10 rfl rfl ?_
      refine ste_of_sr (L' := [11]) [3, 0, 3, 0, 3, 0, 3, 0, 1, 3, 1, 2] rfl rfl rfl ?_
      refine sr_alloc rfl ze_api_Node rfl ?_
      intro b9 w9 N9
      have x9_1 := N9.ne B1
      have x9_2 := N9.ne B2
      have x9_3 := N9.ne B3
      have x9_7 := N9.ne B7
      have l9 := N9.ge g
      have g := g.trans (N9.g)
      replace B1 := B1.grow (N9.g)
      replace B2 := B2.grow (N9.g)
      replace B3 := B3.grow (N9.g)
      replace B7 := B7.grow (N9.g)
      try have hk5 := hk5.grow (N9.g)
      have B9 := N9.blk
      refine sr_nilT ((N9.g).only _) ?_
      refine st_eff1 11 rfl rfl ?_
      refine ste2_of_sr (L' := []) [3, 0, 3, 0, 3, 0, 3, 0, 1, 3, 1, 2] rfl rfl rfl rfl ?_
      refine sr_store_all rfl sz_api_Node (ev_t rfl) (ev_t rfl) rfl rfl B9 rfl rfl ?_
      intro wS20 hgS20 hzS20
      clear B9
      intro B9
      replace B1 := B1.keep hgS20 (by intro h; injection h with h; first | exact x9_1 h.symm | exact x1_9 h | omega)
      replace B2 := B2.keep hgS20 (by intro h; injection h with h; first | exact x9_2 h.symm | exact x2_9 h | omega)
      replace B3 := B3.keep hgS20 (by intro h; injection h with h; first | exact x9_3 h.symm | exact x3_9 h | omega)
      replace B7 := B7.keep hgS20 (by intro h; injection h with h; first | exact x9_7 h.symm | exact x7_9 h | omega)
      have g := g_only g hgS20 (by intro k hk; injection hk with hk; omega)
      have e9 := N9.at_
      have hk5 := hk5.keep hgS20 (fun b hb _ he => by injection he with he; have hb1 := hb.1; have hb2 := hb.2; omega)
      refine sr_nilT2 ?_
      refine st_sub [(1, _, _), (2, _, _), (9, _, _)] (sub_cons rfl (sub_cons rfl (sub_cons rfl (sub_nil _)))) ?_
      refine st_nil (hK38 _ _ ?_)
      refine sc_seq fun K39 hK39 => ?_
      refine sc_seq fun K40 hK40 => ?_
      refine sc_text [3, 0, 3, 3, 3, 0, 3, 3] ?_
      refine sr_pu rfl (fun _ => rd_field fo_api_Node_0 (ev_t rfl)) ?_
      refine sr_rd rfl (rd_load one_int (ev_t rfl) (fun _ => B1.at_ rfl)) ?_
      refine sr_pu rfl (fun _ => rd_eq (ev_t rfl) ev_c) ?_
      refine sr_pu rfl (fun _ => rd_move (ev_t rfl)) ?_
      refine sr_pug rfl rfl rfl (fun _ => rd_field fo_api_Node_0 (ev_t rfl)) ?_
      refine sr_rdg rfl rfl rfl (rd_load one_int (ev_u rfl id) (fun _ => B1.at_ rfl)) ?_
      refine sr_pug rfl rfl rfl (fun _ => rd_eq (ev_u rfl id) ev_c) ?_
      refine sr_pu rfl (fun _ => rd_pick_or (ev_t rfl) (ev_u rfl id)) ?_
      refine sr_sub [(1, _, _), (2, _, _), (9, _, _), (78, _, _)] (sub_cons rfl (sub_cons rfl (sub_cons rfl (sub_cons rfl (sub_nil _))))) ?_
      refine sr_nil (hK40 _ _ ?_)
      refine sc_cond (ev_t rfl) (fun h13 => ?_) (fun h13 => ?_)
      · (try simp only [bsimp] at h13)
        refine sc_text [3, 0, 3, 2] ?_
        refine sr_pu rfl (fun _ => rd_field fo_api_Node_2 (ev_t rfl)) ?_
        refine sr_rd rfl (rd_load one_int (ev_t rfl) (fun _ => B1.at_ rfl)) ?_
        refine sr_pu rfl (fun _ => rd_field fo_api_Node_2 (ev_t rfl)) ?_
        refine sr_store_one rfl sz_int (ev_t rfl) (ev_t rfl) rfl B9 rfl rfl ?_
        intro wS21 hgS21 hzS21
        clear B9
        intro B9
        replace B1 := B1.keep hgS21 (by intro h; injection h with h; first | exact x9_1 h.symm | exact x1_9 h | omega)
        replace B2 := B2.keep hgS21 (by intro h; injection h with h; first | exact x9_2 h.symm | exact x2_9 h | omega)
        replace B3 := B3.keep hgS21 (by intro h; injection h with h; first | exact x9_3 h.symm | exact x3_9 h | omega)
        replace B7 := B7.keep hgS21 (by intro h; injection h with h; first | exact x9_7 h.symm | exact x7_9 h | omega)
        have g := g_only g hgS21 (by intro k hk; injection hk with hk; omega)
        have hk5 := hk5.keep hgS21 (fun b hb _ he => by injection he with he; have hb1 := hb.1; have hb2 := hb.2; omega)
        refine sr_sub [(2, _, _), (9, _, _)] (sub_cons rfl (sub_cons rfl (sub_nil _))) ?_
        refine sr_nil (hK39 _ _ ?_)
        refine sc_seq fun K41 hK41 => ?_
        refine sc_text [0, 2] ?_
        refine sr_rd rfl (rd_loads agg_api_Node (ev_t rfl) rfl (fun _ => B9.row)) ?_
        refine sr_store_all rfl sz_api_Node (ev_t rfl) (ev_t rfl) rfl rfl B2 rfl rfl ?_
        intro wS22 hgS22 hzS22
        clear B2
        intro B2
        replace B1 := B1.keep hgS22 (by intro h; injection h with h; first | exact x2_1 h.symm | exact x1_2 h | omega)
        replace B3 := B3.keep hgS22 (by intro h; injection h with h; first | exact x2_3 h.symm | exact x3_2 h | omega)
        replace B7 := B7.keep hgS22 (by intro h; injection h with h; first | exact x2_7 h.symm | exact x7_2 h | omega)
        replace B9 := B9.keep hgS22 (by intro h; injection h with h; first | exact x2_9 h.symm | exact x9_2 h | omega)
        have g := g_only g hgS22 (by intro k hk; injection hk with hk; omega)
        try have hk5 := hk5.keep hgS22 (fun b hb _ he => by injection he with he; have hb := hb.1; omega)
        refine sr_sub [(2, _, _)] (sub_cons rfl (sub_nil _)) ?_
        refine sr_nil (hK41 _ _ ?_)
        refine sc_ret (t_retv1 rfl (evr_c rfl agg_api_Node rfl (by first | exact B1.row | exact B2.row | exact B3.row | exact B7.row | exact B9.row) (evr_nil)) ?_)
        first
          | exact ⟨⟨_, _, by rw [hT], by rw [hT]; exact hk5.mono fun b hb _ => Nat.le_trans hlow hb.1⟩, g⟩
          | exact ⟨by rw [hT]; exact retNd_leaf _ _ _ rfl, g⟩
          | (refine ⟨?_, g⟩; rw [foldT_eq]; unfold foldF; simp only [h1, h9, h10, h13, cond_true, cond_false, Bool.and_self, Bool.and_true, Bool.and_false, Bool.false_and]; exact ⟨_, _, rfl, hk5.mono fun b hb _ => Nat.le_trans hlow hb.1⟩)
      (try simp only [bsimp] at h13)
      refine sc_skip (hK39 _ _ ?_)
      refine sc_sub [(2, _, _), (9, _, _)] (sub_cons rfl (sub_cons rfl (sub_nil _))) ?_
      refine sc_seq fun K42 hK42 => ?_
      refine sc_text [0, 2] ?_
      refine sr_rd rfl (rd_loads agg_api_Node (ev_t rfl) rfl (fun _ => B9.row)) ?_
      refine sr_store_all rfl sz_api_Node (ev_t rfl) (ev_t rfl) rfl rfl B2 rfl rfl ?_
      intro wS23 hgS23 hzS23
      clear B2
      intro B2
      replace B1 := B1.keep hgS23 (by intro h; injection h with h; first | exact x2_1 h.symm | exact x1_2 h | omega)
      replace B3 := B3.keep hgS23 (by intro h; injection h with h; first | exact x2_3 h.symm | exact x3_2 h | omega)
      replace B7 := B7.keep hgS23 (by intro h; injection h with h; first | exact x2_7 h.symm | exact x7_2 h | omega)
      replace B9 := B9.keep hgS23 (by intro h; injection h with h; first | exact x2_9 h.symm | exact x9_2 h | omega)
      have g := g_only g hgS23 (by intro k hk; injection hk with hk; omega)
      try have hk5 := hk5.keep hgS23 (fun b hb _ he => by injection he with he; have hb := hb.1; omega)
      refine sr_sub [(2, _, _)] (sub_cons rfl (sub_nil _)) ?_
      refine sr_nil (hK42 _ _ ?_)
      refine sc_ret (t_retv1 rfl (evr_c rfl agg_api_Node rfl (by first | exact B1.row | exact B2.row | exact B3.row | exact B7.row | exact B9.row) (evr_nil)) ?_)
      first
        | exact ⟨⟨_, _, by rw [hT], by rw [hT]; exact hk5.mono fun b hb _ => Nat.le_trans hlow hb.1⟩, g⟩
        | exact ⟨by rw [hT]; exact retNd_leaf _ _ _ rfl, g⟩
        | (refine ⟨?_, g⟩; rw [foldT_eq]; unfold foldF; simp only [h1, h9, h10, h13, cond_true, cond_false, Bool.and_self, Bool.and_true, Bool.and_false, Bool.false_and]; exact ⟨_, _, rfl, hk5.mono fun b hb _ => Nat.le_trans hlow hb.1⟩)
    · refine ste_of_sr (L' := [8, 9, 11]) [3, 0, 3, 0, 3, 0, 3, 0, 1, 3, 1, 2] rfl rfl rfl ?_
      refine sr_alloc rfl ze_api_Node rfl ?_
      intro b9 w9 N9
      have x9_1 := N9.ne B1
      have x9_2 := N9.ne B2
      have x9_3 := N9.ne B3
      have x9_7 := N9.ne B7
      have l9 := N9.ge g
      have g := g.trans (N9.g)
      replace B1 := B1.grow (N9.g)
      replace B2 := B2.grow (N9.g)
      replace B3 := B3.grow (N9.g)
      replace B7 := B7.grow (N9.g)
      try have hk5 := hk5.grow (N9.g)
      have B9 := N9.blk
      refine sr_nilT ((N9.g).only _) ?_
      refine st_eff1 8 rfl rfl ?_
      refine ste_of_sr (L' := [9, 11]) [3, 0, 3, 0, 3, 0, 3, 0, 1, 3, 1, 2] rfl rfl rfl ?_
      refine sr_call rfl (rc_call go_fold_each_api_Node ev_f (args_cons (ev_t rfl) (args_cons ev_f (args_nil))) rfl) (each_ok t.kids _ _ D _ (hk0.grow g) hf (by omega)) ?_
      rintro v69 w69 ⟨⟨p5, c5, rfl, hk5⟩, g69⟩
      refine ⟨fun _ => g69, ?_⟩
      have hlow := g.size
      have hB2 := B2.lt
      try have hB9 := B9.lt
      have g := g.trans g69
      have hk5 := hk5.lt
      replace B1 := B1.grow (g69)
      replace B2 := B2.grow (g69)
      replace B3 := B3.grow (g69)
      replace B7 := B7.grow (g69)
      replace B9 := B9.grow (g69)
      try have hk5 := hk5.grow (g69)
      refine sr_nilT ((g69).only _) ?_
      refine st_pu (L' := [11]) 9 rfl rfl rfl (fun _ => rd_build [_, _, _, _, _, _, _, _, _] ze_api_Node rfl pl_api_Node (parts_cons (ev_t rfl) (parts_cons (ev_t rfl) (parts_cons (ev_t rfl) (parts_cons (ev_t rfl) (parts_nil))))) rfl) ?_
      refine st_eff1 11 rfl rfl ?_
      refine ste2_of_sr (L' := []) [3, 0, 3, 0, 3, 0, 3, 0, 1, 3, 1, 2] rfl rfl rfl rfl ?_
      refine sr_store_all rfl sz_api_Node (ev_t rfl) (ev_t rfl) rfl rfl B9 rfl rfl ?_
      intro wS20 hgS20 hzS20
      clear B9
      intro B9
      replace B1 := B1.keep hgS20 (by intro h; injection h with h; first | exact x9_1 h.symm | exact x1_9 h | omega)
      replace B2 := B2.keep hgS20 (by intro h; injection h with h; first | exact x9_2 h.symm | exact x2_9 h | omega)
      replace B3 := B3.keep hgS20 (by intro h; injection h with h; first | exact x9_3 h.symm | exact x3_9 h | omega)
      replace B7 := B7.keep hgS20 (by intro h; injection h with h; first | exact x9_7 h.symm | exact x7_9 h | omega)
      have g := g_only g hgS20 (by intro k hk; injection hk with hk; omega)
      have e9 := N9.at_
      have hk5 := hk5.keep hgS20 (fun b hb _ he => by injection he with he; have hb1 := hb.1; have hb2 := hb.2; omega)
      refine sr_nilT2 ?_
      refine st_sub [(1, _, _), (2, _, _), (9, _, _)] (sub_cons rfl (sub_cons rfl (sub_cons rfl (sub_nil _)))) ?_
      refine st_nil (hK38 _ _ ?_)
      refine sc_seq fun K39 hK39 => ?_
      refine sc_seq fun K40 hK40 => ?_
      refine sc_text [3, 0, 3, 3, 3, 0, 3, 3] ?_
      refine sr_pu rfl (fun _ => rd_field fo_api_Node_0 (ev_t rfl)) ?_
      refine sr_rd rfl (rd_load one_int (ev_t rfl) (fun _ => B1.at_ rfl)) ?_
      refine sr_pu rfl (fun _ => rd_eq (ev_t rfl) ev_c) ?_
      refine sr_pu rfl (fun _ => rd_move (ev_t rfl)) ?_
      refine sr_pug rfl rfl rfl (fun _ => rd_field fo_api_Node_0 (ev_t rfl)) ?_
      refine sr_rdg rfl rfl rfl (rd_load one_int (ev_u rfl id) (fun _ => B1.at_ rfl)) ?_
      refine sr_pug rfl rfl rfl (fun _ => rd_eq (ev_u rfl id) ev_c) ?_
      refine sr_pu rfl (fun _ => rd_pick_or (ev_t rfl) (ev_u rfl id)) ?_
      refine sr_sub [(1, _, _), (2, _, _), (9, _, _), (78, _, _)] (sub_cons rfl (sub_cons rfl (sub_cons rfl (sub_cons rfl (sub_nil _))))) ?_
      refine sr_nil (hK40 _ _ ?_)
      refine sc_cond (ev_t rfl) (fun h13 => ?_) (fun h13 => ?_)
      · (try simp only [bsimp] at h13)
        refine sc_text [3, 0, 3, 2] ?_
        refine sr_pu rfl (fun _ => rd_field fo_api_Node_2 (ev_t rfl)) ?_
        refine sr_rd rfl (rd_load one_int (ev_t rfl) (fun _ => B1.at_ rfl)) ?_
        refine sr_pu rfl (fun _ => rd_field fo_api_Node_2 (ev_t rfl)) ?_
        refine sr_store_one rfl sz_int (ev_t rfl) (ev_t rfl) rfl B9 rfl rfl ?_
        intro wS21 hgS21 hzS21
        clear B9
        intro B9
        replace B1 := B1.keep hgS21 (by intro h; injection h with h; first | exact x9_1 h.symm | exact x1_9 h | omega)
        replace B2 := B2.keep hgS21 (by intro h; injection h with h; first | exact x9_2 h.symm | exact x2_9 h | omega)
        replace B3 := B3.keep hgS21 (by intro h; injection h with h; first | exact x9_3 h.symm | exact x3_9 h | omega)
        replace B7 := B7.keep hgS21 (by intro h; injection h with h; first | exact x9_7 h.symm | exact x7_9 h | omega)
        have g := g_only g hgS21 (by intro k hk; injection hk with hk; omega)
        have hk5 := hk5.keep hgS21 (fun b hb _ he => by injection he with he; have hb1 := hb.1; have hb2 := hb.2; omega)
        refine sr_sub [(2, _, _), (9, _, _)] (sub_cons rfl (sub_cons rfl (sub_nil _))) ?_
        refine sr_nil (hK39 _ _ ?_)
        refine sc_seq fun K41 hK41 => ?_
        refine sc_text [0, 2] ?_
        refine sr_rd rfl (rd_loads agg_api_Node (ev_t rfl) rfl (fun _ => B9.row)) ?_
        refine sr_store_all rfl sz_api_Node (ev_t rfl) (ev_t rfl) rfl rfl B2 rfl rfl ?_
        intro wS22 hgS22 hzS22
        clear B2
        intro B2
        replace B1 := B1.keep hgS22 (by intro h; injection h with h; first | exact x2_1 h.symm | exact x1_2 h | omega)
        replace B3 := B3.keep hgS22 (by intro h; injection h with h; first | exact x2_3 h.symm | exact x3_2 h | omega)
        replace B7 := B7.keep hgS22 (by intro h; injection h with h; first | exact x2_7 h.symm | exact x7_2 h | omega)
        replace B9 := B9.keep hgS22 (by intro h; injection h with h; first | exact x2_9 h.symm | exact x9_2 h | omega)
        have g := g_only g hgS22 (by intro k hk; injection hk with hk; omega)
        try have hk5 := hk5.keep hgS22 (fun b hb _ he => by injection he with he; have hb := hb.1; omega)
        refine sr_sub [(2, _, _)] (sub_cons rfl (sub_nil _)) ?_
        refine sr_nil (hK41 _ _ ?_)
        refine sc_ret (t_retv1 rfl (evr_c rfl agg_api_Node rfl (by first | exact B1.row | exact B2.row | exact B3.row | exact B7.row | exact B9.row) (evr_nil)) ?_)
        first
          | exact ⟨⟨_, _, by rw [hT], by rw [hT]; exact hk5.mono fun b hb _ => Nat.le_trans hlow hb.1⟩, g⟩
          | exact ⟨by rw [hT]; exact retNd_leaf _ _ _ rfl, g⟩
          | (refine ⟨?_, g⟩; rw [foldT_eq]; unfold foldF; simp only [h1, h9, h10, h13, cond_true, cond_false, Bool.and_self, Bool.and_true, Bool.and_false, Bool.false_and]; exact ⟨_, _, rfl, hk5.mono fun b hb _ => Nat.le_trans hlow hb.1⟩)
      (try simp only [bsimp] at h13)
      refine sc_skip (hK39 _ _ ?_)
      refine sc_sub [(2, _, _), (9, _, _)] (sub_cons rfl (sub_cons rfl (sub_nil _))) ?_
      refine sc_seq fun K42 hK42 => ?_
      refine sc_text [0, 2] ?_
      refine sr_rd rfl (rd_loads agg_api_Node (ev_t rfl) rfl (fun _ => B9.row)) ?_
      refine sr_store_all rfl sz_api_Node (ev_t rfl) (ev_t rfl) rfl rfl B2 rfl rfl ?_
      intro wS23 hgS23 hzS23
      clear B2
      intro B2
      replace B1 := B1.keep hgS23 (by intro h; injection h with h; first | exact x2_1 h.symm | exact x1_2 h | omega)
      replace B3 := B3.keep hgS23 (by intro h; injection h with h; first | exact x2_3 h.symm | exact x3_2 h | omega)
      replace B7 := B7.keep hgS23 (by intro h; injection h with h; first | exact x2_7 h.symm | exact x7_2 h | omega)
      replace B9 := B9.keep hgS23 (by intro h; injection h with h; first | exact x2_9 h.symm | exact x9_2 h | omega)
      have g := g_only g hgS23 (by intro k hk; injection hk with hk; omega)
      try have hk5 := hk5.keep hgS23 (fun b hb _ he => by injection he with he; have hb := hb.1; omega)
      refine sr_sub [(2, _, _)] (sub_cons rfl (sub_nil _)) ?_
      refine sr_nil (hK42 _ _ ?_)
      refine sc_ret (t_retv1 rfl (evr_c rfl agg_api_Node rfl (by first | exact B1.row | exact B2.row | exact B3.row | exact B7.row | exact B9.row) (evr_nil)) ?_)
      first
        | exact ⟨⟨_, _, by rw [hT], by rw [hT]; exact hk5.mono fun b hb _ => Nat.le_trans hlow hb.1⟩, g⟩
        | exact ⟨by rw [hT]; exact retNd_leaf _ _ _ rfl, g⟩
        | (refine ⟨?_, g⟩; rw [foldT_eq]; unfold foldF; simp only [h1, h9, h10, h13, cond_true, cond_false, Bool.and_self, Bool.and_true, Bool.and_false, Bool.false_and]; exact ⟨_, _, rfl, hk5.mono fun b hb _ => Nat.le_trans hlow hb.1⟩)
  (try simp only [bsimp] at h9)
  refine sc_skip (hK28 _ _ ?_)
  refine sc_sub [(1, _, _), (2, _, _)] (sub_cons rfl (sub_cons rfl (sub_nil _))) ?_
  refine sc_seq fun K43 hK43 => ?_
  refine sc_drawT none [3, 0, 3, 0, 3, 0, 3, 0, 1, 3, 1, 2] [0, 1, 0, 4, 0, 16, 0, 64, 192, 511, 0, 2047] mix (by kernel_rfl) [0, 1, 2, 3, 4, 5, 6, 7, 8, 9, 10, 11] rfl ?_
  have g := g.trans (G.drew _)
  replace B1 := B1.grow (G.drew _)
  replace B2 := B2.grow (G.drew _)
  replace B3 := B3.grow (G.drew _)
  try have hk5 := hk5.grow (G.drew _)
  refine st_pu (L' := [1, 2, 3, 4, 5, 6, 7, 8, 9, 10, 11]) 0 rfl rfl rfl (fun _ => rd_field fo_api_Node_0 (ev_t rfl)) ?_
  refine st_rd (L' := [2, 3, 4, 5, 6, 7, 8, 9, 10, 11]) 1 rfl rfl rfl (fun w1 hx => rd_load one_int (ev_t rfl) (fun _ => (B1.keep hx (by intro h; first | (injection h with h; omega) | cases h)).at_ rfl)) ?_
  refine st_pu (L' := [3, 4, 5, 6, 7, 8, 9, 10, 11]) 2 rfl rfl rfl (fun _ => rd_field fo_api_Node_1 (ev_t rfl)) ?_
  refine st_rd (L' := [4, 5, 6, 7, 8, 9, 10, 11]) 3 rfl rfl rfl (fun w1 hx => rd_load one_string (ev_t rfl) (fun _ => (B1.keep hx (by intro h; first | (injection h with h; omega) | cases h)).at_ rfl)) ?_
  refine st_pu (L' := [5, 6, 7, 8, 9, 10, 11]) 4 rfl rfl rfl (fun _ => rd_field fo_api_Node_3 (ev_t rfl)) ?_
  refine st_rd (L' := [6, 7, 8, 9, 10, 11]) 5 rfl rfl rfl (fun w1 hx => rd_load one_int (ev_t rfl) (fun _ => (B1.keep hx (by intro h; first | (injection h with h; omega) | cases h)).at_ rfl)) ?_
  refine st_pu (L' := [7, 8, 9, 10, 11]) 6 rfl rfl rfl (fun _ => rd_field fo_api_Node_4 (ev_t rfl)) ?_
  refine st_rd (L' := [8, 9, 10, 11]) 7 rfl rfl rfl (fun w1 hx => rd_load one_sl_api_Node (ev_t rfl) (fun _ => (B1.keep hx (by intro h; first | (injection h with h; omega) | cases h)).at_ rfl)) ?_
  refine st_eff2 8 10 rfl rfl ?_ ?_
  · refine ste_of_sr (L' := [9, 10, 11]) [3, 0, 3, 0, 3, 0, 3, 0, 1, 3, 1, 2] rfl rfl rfl ?_
    refine sr_call rfl (rc_call go_fold_each_api_Node ev_f (args_cons (ev_t rfl) (args_cons ev_f (args_nil))) rfl) (each_ok t.kids _ _ D _ (hk0.grow g) hf (by omega)) ?_
    rintro v69 w69 ⟨⟨p5, c5, rfl, hk5⟩, g69⟩
    refine ⟨fun _ => g69, ?_⟩
    have hlow := g.size
    have hB2 := B2.lt
    try have hB9 := B9.lt
    have g := g.trans g69
    have hk5 := hk5.lt
    replace B1 := B1.grow (g69)
    replace B2 := B2.grow (g69)
    replace B3 := B3.grow (g69)
    try have hk5 := hk5.grow (g69)
    refine sr_nilT ((g69).only _) ?_
    refine st_pu (L' := [10, 11]) 9 rfl rfl rfl (fun _ => rd_build [_, _, _, _, _, _, _, _, _] ze_api_Node rfl pl_api_Node (parts_cons (ev_t rfl) (parts_cons (ev_t rfl) (parts_cons (ev_t rfl) (parts_cons (ev_t rfl) (parts_nil))))) rfl) ?_
    refine st_eff1 10 rfl rfl ?_
    refine ste_of_sr (L' := [11]) [3, 0, 3, 0, 3, 0, 3, 0, 1, 3, 1, 2] rfl rfl rfl ?_
    refine sr_alloc rfl ze_api_Node rfl ?_
    intro b9 w9 N9
    have x9_1 := N9.ne B1
    have x9_2 := N9.ne B2
    have x9_3 := N9.ne B3
    have l9 := N9.ge g
    have g := g.trans (N9.g)
    replace B1 := B1.grow (N9.g)
    replace B2 := B2.grow (N9.g)
    replace B3 := B3.grow (N9.g)
    try have hk5 := hk5.grow (N9.g)
    have B9 := N9.blk
    refine sr_nilT ((N9.g).only _) ?_
    refine st_eff1 11 rfl rfl ?_
    refine ste2_of_sr (L' := []) [3, 0, 3, 0, 3, 0, 3, 0, 1, 3, 1, 2] rfl rfl rfl rfl ?_
    refine sr_store_all rfl sz_api_Node (ev_t rfl) (ev_t rfl) rfl rfl B9 rfl rfl ?_
    intro wS24 hgS24 hzS24
    clear B9
    intro B9
    replace B1 := B1.keep hgS24 (by intro h; injection h with h; first | exact x9_1 h.symm | exact x1_9 h | omega)
    replace B2 := B2.keep hgS24 (by intro h; injection h with h; first | exact x9_2 h.symm | exact x2_9 h | omega)
    replace B3 := B3.keep hgS24 (by intro h; injection h with h; first | exact x9_3 h.symm | exact x3_9 h | omega)
    have g := g_only g hgS24 (by intro k hk; injection hk with hk; omega)
    have e9 := N9.at_
    have hk5 := hk5.keep hgS24 (fun b hb _ he => by injection he with he; have hb1 := hb.1; have hb2 := hb.2; omega)
    refine sr_nilT2 ?_
    refine st_sub [(1, _, _), (2, _, _), (9, _, _)] (sub_cons rfl (sub_cons rfl (sub_cons rfl (sub_nil _)))) ?_
    refine st_nil (hK43 _ _ ?_)
    refine sc_seq fun K44 hK44 => ?_
    refine sc_seq fun K45 hK45 => ?_
    refine sc_text [3, 0, 3, 3, 3, 0, 3, 3] ?_
    refine sr_pu rfl (fun _ => rd_field fo_api_Node_0 (ev_t rfl)) ?_
    refine sr_rd rfl (rd_load one_int (ev_t rfl) (fun _ => B1.at_ rfl)) ?_
    refine sr_pu rfl (fun _ => rd_eq (ev_t rfl) ev_c) ?_
    refine sr_pu rfl (fun _ => rd_move (ev_t rfl)) ?_
    refine sr_pug rfl rfl rfl (fun _ => rd_field fo_api_Node_0 (ev_t rfl)) ?_
    refine sr_rdg rfl rfl rfl (rd_load one_int (ev_u rfl id) (fun _ => B1.at_ rfl)) ?_
    refine sr_pug rfl rfl rfl (fun _ => rd_eq (ev_u rfl id) ev_c) ?_
    refine sr_pu rfl (fun _ => rd_pick_or (ev_t rfl) (ev_u rfl id)) ?_
    refine sr_sub [(1, _, _), (2, _, _), (9, _, _), (78, _, _)] (sub_cons rfl (sub_cons rfl (sub_cons rfl (sub_cons rfl (sub_nil _))))) ?_
    refine sr_nil (hK45 _ _ ?_)
    refine sc_cond (ev_t rfl) (fun h14 => ?_) (fun h14 => ?_)
    · (try simp only [bsimp] at h14)
      refine sc_text [3, 0, 3, 2] ?_
      refine sr_pu rfl (fun _ => rd_field fo_api_Node_2 (ev_t rfl)) ?_
      refine sr_rd rfl (rd_load one_int (ev_t rfl) (fun _ => B1.at_ rfl)) ?_
      refine sr_pu rfl (fun _ => rd_field fo_api_Node_2 (ev_t rfl)) ?_
      refine sr_store_one rfl sz_int (ev_t rfl) (ev_t rfl) rfl B9 rfl rfl ?_
      intro wS25 hgS25 hzS25
      clear B9
      intro B9
      replace B1 := B1.keep hgS25 (by intro h; injection h with h; first | exact x9_1 h.symm | exact x1_9 h | omega)
      replace B2 := B2.keep hgS25 (by intro h; injection h with h; first | exact x9_2 h.symm | exact x2_9 h | omega)
      replace B3 := B3.keep hgS25 (by intro h; injection h with h; first | exact x9_3 h.symm | exact x3_9 h | omega)
      have g := g_only g hgS25 (by intro k hk; injection hk with hk; omega)
      have hk5 := hk5.keep hgS25 (fun b hb _ he => by injection he with he; have hb1 := hb.1; have hb2 := hb.2; omega)
      refine sr_sub [(2, _, _), (9, _, _)] (sub_cons rfl (sub_cons rfl (sub_nil _))) ?_
      refine sr_nil (hK44 _ _ ?_)
      refine sc_seq fun K46 hK46 => ?_
      refine sc_text [0, 2] ?_
      refine sr_rd rfl (rd_loads agg_api_Node (ev_t rfl) rfl (fun _ => B9.row)) ?_
      refine sr_store_all rfl sz_api_Node (ev_t rfl) (ev_t rfl) rfl rfl B2 rfl rfl ?_
      intro wS26 hgS26 hzS26
      clear B2
      intro B2
      replace B1 := B1.keep hgS26 (by intro h; injection h with h; first | exact x2_1 h.symm | exact x1_2 h | omega)
      replace B3 := B3.keep hgS26 (by intro h; injection h with h; first | exact x2_3 h.symm | exact x3_2 h | omega)
      replace B9 := B9.keep hgS26 (by intro h; injection h with h; first | exact x2_9 h.symm | exact x9_2 h | omega)
      have g := g_only g hgS26 (by intro k hk; injection hk with hk; omega)
      try have hk5 := hk5.keep hgS26 (fun b hb _ he => by injection he with he; have hb := hb.1; omega)
      refine sr_sub [(2, _, _)] (sub_cons rfl (sub_nil _)) ?_
      refine sr_nil (hK46 _ _ ?_)
      refine sc_ret (t_retv1 rfl (evr_c rfl agg_api_Node rfl (by first | exact B1.row | exact B2.row | exact B3.row | exact B9.row) (evr_nil)) ?_)
      first
        | exact ⟨⟨_, _, by rw [hT], by rw [hT]; exact hk5.mono fun b hb _ => Nat.le_trans hlow hb.1⟩, g⟩
        | exact ⟨by rw [hT]; exact retNd_leaf _ _ _ rfl, g⟩
        | (refine ⟨?_, g⟩; rw [foldT_eq]; unfold foldF; simp only [h1, h9, h14, cond_true, cond_false, Bool.and_self, Bool.and_true, Bool.and_false, Bool.false_and]; exact ⟨_, _, rfl, hk5.mono fun b hb _ => Nat.le_trans hlow hb.1⟩)
    (try simp only [bsimp] at h14)
    refine sc_skip (hK44 _ _ ?_)
    refine sc_sub [(2, _, _), (9, _, _)] (sub_cons rfl (sub_cons rfl (sub_nil _))) ?_
    refine sc_seq fun K47 hK47 => ?_
    refine sc_text [0, 2] ?_
    refine sr_rd rfl (rd_loads agg_api_Node (ev_t rfl) rfl (fun _ => B9.row)) ?_
    refine sr_store_all rfl sz_api_Node (ev_t rfl) (ev_t rfl) rfl rfl B2 rfl rfl ?_
    intro wS27 hgS27 hzS27
    clear B2
    intro B2
    replace B1 := B1.keep hgS27 (by intro h; injection h with h; first | exact x2_1 h.symm | exact x1_2 h | omega)
    replace B3 := B3.keep hgS27 (by intro h; injection h with h; first | exact x2_3 h.symm | exact x3_2 h | omega)
    replace B9 := B9.keep hgS27 (by intro h; injection h with h; first | exact x2_9 h.symm | exact x9_2 h | omega)
    have g := g_only g hgS27 (by intro k hk; injection hk with hk; omega)
    try have hk5 := hk5.keep hgS27 (fun b hb _ he => by injection he with he; have hb := hb.1; omega)
    refine sr_sub [(2, _, _)] (sub_cons rfl (sub_nil _)) ?_
    refine sr_nil (hK47 _ _ ?_)
    refine sc_ret (t_retv1 rfl (evr_c rfl agg_api_Node rfl (by first | exact B1.row | exact B2.row | exact B3.row | exact B9.row) (evr_nil)) ?_)
    first
      | exact ⟨⟨_, _, by rw [hT], by rw [hT]; exact hk5.mono fun b hb _ => Nat.le_trans hlow hb.1⟩, g⟩
      | exact ⟨by rw [hT]; exact retNd_leaf _ _ _ rfl, g⟩
      | (refine ⟨?_, g⟩; rw [foldT_eq]; unfold foldF; simp only [h1, h9, h14, cond_true, cond_false, Bool.and_self, Bool.and_true, Bool.and_false, Bool.false_and]; exact ⟨_, _, rfl, hk5.mono fun b hb _ => Nat.le_trans hlow hb.1⟩)
  · refine ste_of_sr (L' := [8, 9, 11]) [3, 0, 3, 0, 3, 0, 3, 0, 1, 3, 1, 2] rfl rfl rfl ?_
    refine sr_alloc rfl ze_api_Node rfl ?_
    intro b9 w9 N9
    have x9_1 := N9.ne B1
    have x9_2 := N9.ne B2
    have x9_3 := N9.ne B3
    have l9 := N9.ge g
    have g := g.trans (N9.g)
    replace B1 := B1.grow (N9.g)
    replace B2 := B2.grow (N9.g)
    replace B3 := B3.grow (N9.g)
    try have hk5 := hk5.grow (N9.g)
    have B9 := N9.blk
    refine sr_nilT ((N9.g).only _) ?_
    refine st_eff1 8 rfl rfl ?_
    refine ste_of_sr (L' := [9, 11]) [3, 0, 3, 0, 3, 0, 3, 0, 1, 3, 1, 2] rfl rfl rfl ?_
    refine sr_call rfl (rc_call go_fold_each_api_Node ev_f (args_cons (ev_t rfl) (args_cons ev_f (args_nil))) rfl) (each_ok t.kids _ _ D _ (hk0.grow g) hf (by omega)) ?_
    rintro v69 w69 ⟨⟨p5, c5, rfl, hk5⟩, g69⟩
    refine ⟨fun _ => g69, ?_⟩
    have hlow := g.size
    have hB2 := B2.lt
    try have hB9 := B9.lt
    have g := g.trans g69
    have hk5 := hk5.lt
    replace B1 := B1.grow (g69)
    replace B2 := B2.grow (g69)
    replace B3 := B3.grow (g69)
    replace B9 := B9.grow (g69)
    try have hk5 := hk5.grow (g69)
    refine sr_nilT ((g69).only _) ?_
    refine st_pu (L' := [11]) 9 rfl rfl rfl (fun _ => rd_build [_, _, _, _, _, _, _, _, _] ze_api_Node rfl pl_api_Node (parts_cons (ev_t rfl) (parts_cons (ev_t rfl) (parts_cons (ev_t rfl) (parts_cons (ev_t rfl) (parts_nil))))) rfl) ?_
    refine st_eff1 11 rfl rfl ?_
    refine ste2_of_sr (L' := []) [3, 0, 3, 0, 3, 0, 3, 0, 1, 3, 1, 2] rfl rfl rfl rfl ?_
    refine sr_store_all rfl sz_api_Node (ev_t rfl) (ev_t rfl) rfl rfl B9 rfl rfl ?_
    intro wS24 hgS24 hzS24
    clear B9
    intro B9
    replace B1 := B1.keep hgS24 (by intro h; injection h with h; first | exact x9_1 h.symm | exact x1_9 h | omega)
    replace B2 := B2.keep hgS24 (by intro h; injection h with h; first | exact x9_2 h.symm | exact x2_9 h | omega)
    replace B3 := B3.keep hgS24 (by intro h; injection h with h; first | exact x9_3 h.symm | exact x3_9 h | omega)
    have g := g_only g hgS24 (by intro k hk; injection hk with hk; omega)
    have e9 := N9.at_
    have hk5 := hk5.keep hgS24 (fun b hb _ he => by injection he with he; have hb1 := hb.1; have hb2 := hb.2; omega)
    refine sr_nilT2 ?_
    refine st_sub [(1, _, _), (2, _, _), (9, _, _)] (sub_cons rfl (sub_cons rfl (sub_cons rfl (sub_nil _)))) ?_
    refine st_nil (hK43 _ _ ?_)
    refine sc_seq fun K44 hK44 => ?_
    refine sc_seq fun K45 hK45 => ?_
    refine sc_text [3, 0, 3, 3, 3, 0, 3, 3] ?_
    refine sr_pu rfl (fun _ => rd_field fo_api_Node_0 (ev_t rfl)) ?_
    refine sr_rd rfl (rd_load one_int (ev_t rfl) (fun _ => B1.at_ rfl)) ?_
    refine sr_pu rfl (fun _ => rd_eq (ev_t rfl) ev_c) ?_
    refine sr_pu rfl (fun _ => rd_move (ev_t rfl)) ?_
    refine sr_pug rfl rfl rfl (fun _ => rd_field fo_api_Node_0 (ev_t rfl)) ?_
    refine sr_rdg rfl rfl rfl (rd_load one_int (ev_u rfl id) (fun _ => B1.at_ rfl)) ?_
    refine sr_pug rfl rfl rfl (fun _ => rd_eq (ev_u rfl id) ev_c) ?_
    refine sr_pu rfl (fun _ => rd_pick_or (ev_t rfl) (ev_u rfl id)) ?_
    refine sr_sub [(1, _, _), (2, _, _), (9, _, _), (78, _, _)] (sub_cons rfl (sub_cons rfl (sub_cons rfl (sub_cons rfl (sub_nil _))))) ?_
    refine sr_nil (hK45 _ _ ?_)
    refine sc_cond (ev_t rfl) (fun h14 => ?_) (fun h14 => ?_)
    · (try simp only [bsimp] at h14)
      refine sc_text [3, 0, 3, 2] ?_
      refine sr_pu rfl (fun _ => rd_field fo_api_Node_2 (ev_t rfl)) ?_
      refine sr_rd rfl (rd_load one_int (ev_t rfl) (fun _ => B1.at_ rfl)) ?_
      refine sr_pu rfl (fun _ => rd_field fo_api_Node_2 (ev_t rfl)) ?_
      refine sr_store_one rfl sz_int (ev_t rfl) (ev_t rfl) rfl B9 rfl rfl ?_
      intro wS25 hgS25 hzS25
      clear B9
      intro B9
      replace B1 := B1.keep hgS25 (by intro h; injection h with h; first | exact x9_1 h.symm | exact x1_9 h | omega)
      replace B2 := B2.keep hgS25 (by intro h; injection h with h; first | exact x9_2 h.symm | exact x2_9 h | omega)
      replace B3 := B3.keep hgS25 (by intro h; injection h with h; first | exact x9_3 h.symm | exact x3_9 h | omega)
      have g := g_only g hgS25 (by intro k hk; injection hk with hk; omega)
      have hk5 := hk5.keep hgS25 (fun b hb _ he => by injection he with he; have hb1 := hb.1; have hb2 := hb.2; omega)
      refine sr_sub [(2, _, _), (9, _, _)] (sub_cons rfl (sub_cons rfl (sub_nil _))) ?_
      refine sr_nil (hK44 _ _ ?_)
      refine sc_seq fun K46 hK46 => ?_
      refine sc_text [0, 2] ?_
      refine sr_rd rfl (rd_loads agg_api_Node (ev_t rfl) rfl (fun _ => B9.row)) ?_
      refine sr_store_all rfl sz_api_Node (ev_t rfl) (ev_t rfl) rfl rfl B2 rfl rfl ?_
      intro wS26 hgS26 hzS26
      clear B2
      intro B2
      replace B1 := B1.keep hgS26 (by intro h; injection h with h; first | exact x2_1 h.symm | exact x1_2 h | omega)
      replace B3 := B3.keep hgS26 (by intro h; injection h with h; first | exact x2_3 h.symm | exact x3_2 h | omega)
      replace B9 := B9.keep hgS26 (by intro h; injection h with h; first | exact x2_9 h.symm | exact x9_2 h | omega)
      have g := g_only g hgS26 (by intro k hk; injection hk with hk; omega)
      try have hk5 := hk5.keep hgS26 (fun b hb _ he => by injection he with he; have hb := hb.1; omega)
      refine sr_sub [(2, _, _)] (sub_cons rfl (sub_nil _)) ?_
      refine sr_nil (hK46 _ _ ?_)
      refine sc_ret (t_retv1 rfl (evr_c rfl agg_api_Node rfl (by first | exact B1.row | exact B2.row | exact B3.row | exact B9.row) (evr_nil)) ?_)
      first
        | exact ⟨⟨_, _, by rw [hT], by rw [hT]; exact hk5.mono fun b hb _ => Nat.le_trans hlow hb.1⟩, g⟩
        | exact ⟨by rw [hT]; exact retNd_leaf _ _ _ rfl, g⟩
        | (refine ⟨?_, g⟩; rw [foldT_eq]; unfold foldF; simp only [h1, h9, h14, cond_true, cond_false, Bool.and_self, Bool.and_true, Bool.and_false, Bool.false_and]; exact ⟨_, _, rfl, hk5.mono fun b hb _ => Nat.le_trans hlow hb.1⟩)
    (try simp only [bsimp] at h14)
    refine sc_skip (hK44 _ _ ?_)
    refine sc_sub [(2, _, _), (9, _, _)] (sub_cons rfl (sub_cons rfl (sub_nil _))) ?_
    refine sc_seq fun K47 hK47 => ?_
    refine sc_text [0, 2] ?_
    refine sr_rd rfl (rd_loads agg_api_Node (ev_t rfl) rfl (fun _ => B9.row)) ?_
    refine sr_store_all rfl sz_api_Node (ev_t rfl) (ev_t rfl) rfl rfl B2 rfl rfl ?_
    intro wS27 hgS27 hzS27
    clear B2
    intro B2
    replace B1 := B1.keep hgS27 (by intro h; injection h with h; first | exact x2_1 h.symm | exact x1_2 h | omega)
    replace B3 := B3.keep hgS27 (by intro h; injection h with h; first | exact x2_3 h.symm | exact x3_2 h | omega)
    replace B9 := B9.keep hgS27 (by intro h; injection h with h; first | exact x2_9 h.symm | exact x9_2 h | omega)
    have g := g_only g hgS27 (by intro k hk; injection hk with hk; omega)
    try have hk5 := hk5.keep hgS27 (fun b hb _ he => by injection he with he; have hb := hb.1; omega)
    refine sr_sub [(2, _, _)] (sub_cons rfl (sub_nil _)) ?_
    refine sr_nil (hK47 _ _ ?_)
    refine sc_ret (t_retv1 rfl (evr_c rfl agg_api_Node rfl (by first | exact B1.row | exact B2.row | exact B3.row | exact B9.row) (evr_nil)) ?_)
    first
      | exact ⟨⟨_, _, by rw [hT], by rw [hT]; exact hk5.mono fun b hb _ => Nat.le_trans hlow hb.1⟩, g⟩
      | exact ⟨by rw [hT]; exact retNd_leaf _ _ _ rfl, g⟩
      | (refine ⟨?_, g⟩; rw [foldT_eq]; unfold foldF; simp only [h1, h9, h14, cond_true, cond_false, Bool.and_self, Bool.and_true, Bool.and_false, Bool.false_and]; exact ⟨_, _, rfl, hk5.mono fun b hb _ => Nat.le_trans hlow hb.1⟩)
end Go.Rk
