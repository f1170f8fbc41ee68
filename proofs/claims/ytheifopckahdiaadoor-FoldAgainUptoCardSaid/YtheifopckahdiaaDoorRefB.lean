/- The reference on trees: listing, copying. Conditions: none. -/
import Derived.Test.YtheifopckahdiaaDoorOwn
import Derived.Test.YtheifopckahdiaaDoorRefA
import Derived.Test.YtheifopckahdiaaDoorFacts
namespace Go.Rk
open Go Go.RowKit
theorem take_step {α : Type} {l : List α} {i : Nat} (h : i < l.length) : l.take (i + 1) = l.take i ++ [l[i]] := by
  rw [List.take_add_one, List.getElem?_eq_getElem h]; rfl
/-- A tree comes back in new memory. -/
def RetNd (t : Nd) (base : Nat) (r : Value) (w : World) : Prop := ∃ p c, r = ndV t (.slice p t.kids.length c) ∧ Kd w (fun b => base ≤ b) t.kids (.slice p t.kids.length c)
theorem rcopy_ok : ∀ (t : Nd) (v : Value) (D : Nat → Prop) (w : World), Kd w D t.kids v → t.kids.length ≤ 1000000 → count t ≤ 1000000 → Ret PP fn_r03_Copy #[ndV t v] w fun r w' => RetNd t w.heap.size r w' ∧ G w w' := by
  refine Nd.ind fun t ih v D w hk hlen hc => ?_
  obtain ⟨p, c, rfl, hcap, hks⟩ := hk
  have g := G.refl w
  refine ret_of_sc (m := 25) func_r03_Copy rfl rfl [(0, True, _)] (sub_cons rfl (sub_nil _)) ?_
  refine sc_seq fun K1 hK1 => ?_
  refine sc_text [1, 1] ?_
  refine sr_box rfl (ev_t rfl) rfl ?_
  intro b1 w1 N1
  have l1 := N1.ge g
  have g := g.trans (N1.g)
  try have hO := hO.grow (N1.g)
  have B1 := N1.blk
  refine sr_alloc rfl ze_api_Node rfl ?_
  intro b2 w2 N2
  have x2_1 := N2.ne B1
  have l2 := N2.ge g
  have g := g.trans (N2.g)
  replace B1 := B1.grow (N2.g)
  try have hO := hO.grow (N2.g)
  have B2 := N2.blk
  refine sr_sub [(1, _, _), (2, _, _)] (sub_cons rfl (sub_cons rfl (sub_nil _))) ?_
  refine sr_nil (hK1 _ _ ?_)
  refine sc_seq fun K2 hK2 => ?_
  refine sc_text [3, 0, 3] ?_
  refine sr_pu rfl (fun _ => rd_field fo_api_Node_4 (ev_t rfl)) ?_
  refine sr_rd rfl (rd_load one_sl_api_Node (ev_t rfl) (fun _ => B1.at_ rfl)) ?_
  refine sr_pu rfl (fun _ => rd_assign (ev_t rfl)) ?_
  refine sr_sub [(1, _, _), (2, _, _), (3, _, _)] (sub_cons rfl (sub_cons rfl (sub_cons rfl (sub_nil _)))) ?_
  refine sr_nil (hK2 _ _ ?_)
  refine sc_seq fun K3 hK3 => ?_
  refine sc_text [3, 2] ?_
  refine sr_pu rfl (fun _ => rd_field fo_api_Node_4 (ev_t rfl)) ?_
  refine sr_store_one rfl sz_sl_api_Node (ev_t rfl) ev_c rfl B1 rfl rfl ?_
  intro wS1 hgS1 hzS1
  clear B1
  intro B1
  replace B2 := B2.keep hgS1 (by intro h; injection h with h; omega)
  have g := g_only g hgS1 (by intro k hk; injection hk with hk; omega)
  refine sr_sub [(1, _, _), (2, _, _), (3, _, _)] (sub_cons rfl (sub_cons rfl (sub_cons rfl (sub_nil _)))) ?_
  refine sr_nil (hK3 _ _ ?_)
  refine sc_seq fun K4 hK4 => ?_
  refine sc_seq fun K5 hK5 => ?_
  refine sc_text [3] ?_
  refine sr_pu rfl (fun _ => rd_assign ev_c) ?_
  refine sr_nil (hK5 _ _ ?_)
  refine sc_block ?_
  refine sc_loop3 (fun (i : Nat) u1 => (i ≤ t.kids.length ∧ ∃ s, Blk u1 b1 ty_api_Node (ndCells t s) ∧ OwnK ty_api_Node (Dx w.heap.size [b1, b2]) w.heap.size u1 (t.kids.take i) s) ∧ G w u1) _ [(1, True, _), (2, True, _), (3, True, _)] (fun (i : Nat) => [(4, True, .int .i64 i)]) (fun (i : Nat) => t.kids.length - i) (0) ⟨⟨Nat.zero_le _, _, B1, ownK_nil _ _ _ _⟩, g⟩ (andE_mk (blkE B2) (nilE_mk _)) (sub_cons rfl (sub_cons rfl (sub_cons rfl (sub_cons rfl (sub_nil _))))) ?_
  clear B1 B2
  rintro i u1 ⟨hI1, gl1⟩ ⟨B2, _⟩
  replace B2 : Blk _ _ _ _ := B2
  have g := gl1
  obtain ⟨hi, s, B1, hO⟩ := hI1
  obtain ⟨sa, sc, rfl⟩ := hO.slice
  refine sc_seq fun K6 hK6 => ?_
  refine sc_seq fun K7 hK7 => ?_
  refine sc_text [3, 3, 3, 3] ?_
  refine sr_pu rfl (fun _ => rd_move (ev_t rfl)) ?_
  refine sr_pu rfl (fun _ => rd_move (ev_t rfl)) ?_
  refine sr_pu rfl (fun _ => rd_len el_sl_api_Node (ev_t rfl)) ?_
  refine sr_pu rfl (fun _ => rd_lt (ev_t rfl) (ev_t rfl)) ?_
  refine sr_sub [(1, _, _), (2, _, _), (3, _, _), (4, _, _), (11, _, _)] (sub_cons rfl (sub_cons rfl (sub_cons rfl (sub_cons rfl (sub_cons rfl (sub_nil _)))))) ?_
  refine sr_nil (hK7 _ _ ?_)
  refine sc_cond (ev_t rfl) (fun h1 => ?_) (fun h1 => ?_)
  · replace h1 : i < t.kids.length := by simp only [decide_eq_true_eq] at h1; omega
    obtain ⟨b, o, rfl, hD, xs, hR, hX⟩ := hks (by omega)
    obtain ⟨p', c', hcell, hkid⟩ := kd_at hR hX h1
    have hck := count_kid h1
    have hkl := kids_le t.kids[i]
    have hu := g.size
    refine sc_skip (hK6 _ _ ?_)
    refine sc_sub [(1, _, _), (2, _, _), (3, _, _), (4, _, _)] (sub_cons rfl (sub_cons rfl (sub_cons rfl (sub_cons rfl (sub_nil _))))) ?_
    refine sc_seq fun K8 hK8 => ?_
    refine sc_block ?_
    refine sc_draw [3, 0, 3, 3, 3, 0, 1, 1, 2, 3, 2] [true, true, true, true, true, true, true, true, true, true, true] [0, 1, 0, 0, 12, 28, 60, 124, 255, 511, 1023] mix (by kernel_rfl) ?_
    have g := g.trans (G.drew _)
    replace B1 := B1.grow (G.drew _)
    replace B2 := B2.grow (G.drew _)
    try have hO := hO.grow (G.drew _)
    have hB1lt := B1.lt
    have hB2lt := B2.lt
    have hOlt := hO.lt
    refine sr_pu rfl (fun _ => rd_field fo_api_Node_4 (ev_t rfl)) ?_
    refine sr_rd rfl (rd_load one_sl_api_Node (ev_t rfl) (fun _ => B1.at_ rfl)) ?_
    refine sr_pu rfl (fun _ => rd_move (ev_t rfl)) ?_
    refine sr_pu rfl (fun _ => rd_move (ev_t rfl)) ?_
    refine sr_pu rfl (fun _ => rd_idx el_sl_api_Node (ev_t rfl) (ev_t rfl) (fun _ => by omega)) ?_
    refine sr_rd rfl (rd_loads agg_api_Node (ev_t rfl) rfl (fun _ => hcell.grow g)) ?_
    refine sr_call rfl (rc_call go_r03_Copy ev_f (args_cons (ev_t rfl) (args_nil)) rfl) (ih _ (List.getElem_mem h1) _ _ _ (hkid.grow g) (by omega) (by omega)) ?_
    rintro v20 w20 ⟨⟨p2, c2, rfl, hk2⟩, g20⟩
    refine ⟨fun _ => g20, ?_⟩
    have g := g.trans g20
    replace B1 := B1.grow (g20)
    replace B2 := B2.grow (g20)
    try have hO := hO.grow (g20)
    refine sr_buildSlice [_, _, _, _, _, _, _, _, _] rfl el_sl_api_Node ze_api_Node (parts_cons (ev_t rfl) (parts_nil)) rfl rfl ?_
    intro b21 w21 N21
    have x21_1 := N21.ne B1
    have x21_2 := N21.ne B2
    have l21 := N21.ge g
    have g := g.trans (N21.g)
    replace B1 := B1.grow (N21.g)
    replace B2 := B2.grow (N21.g)
    try have hO := hO.grow (N21.g)
    have B21 := N21.blk
    have hk2 := hk2.grow N21.g
    have hOo := hO
    refine sr_appendK rfl el_sl_api_Node ze_api_Node rfl (ev_t rfl) hO (ev_t rfl) rfl B21.row (krow_one (hk2.mono fun k hk _ => ⟨⟨by have : u1.heap.size ≤ k := hk; omega, by have : u1.heap.size ≤ k := hk; have := hB1lt; have := hB2lt; simp; omega⟩, fun he => by have := hOlt k he.symm; have : u1.heap.size ≤ k := hk; omega⟩)) (by simp; omega) (by have := g.size; omega) ⟨by have := g.size; omega, by have q1 := B1.lt; have q2 := B2.lt; simp; omega⟩ ?_
    intro a22 c22 w22 hO hg22
    replace B1 := B1.keep hg22 (hOo.ne (by simp [Dx]))
    replace B2 := B2.keep hg22 (hOo.ne (by simp [Dx]))
    have g := g_only g hg22 (fun k hk => hOo.ge k hk)
    refine sr_pu rfl (fun _ => rd_field fo_api_Node_4 (ev_t rfl)) ?_
    refine sr_store_one rfl sz_sl_api_Node (ev_t rfl) (ev_t rfl) rfl B1 rfl rfl ?_
    intro wS2 hgS2 hzS2
    clear B1
    intro B1
    replace B2 := B2.keep hgS2 (by intro h; injection h with h; omega)
    have g := g_only g hgS2 (by intro k hk; injection hk with hk; omega)
    have hO := hO.keep hgS2 (by simp [Dx])
    refine sr_sub [(1, _, _), (2, _, _), (3, _, _), (4, _, _)] (sub_cons rfl (sub_cons rfl (sub_cons rfl (sub_cons rfl (sub_nil _))))) ?_
    refine sr_nil (hK8 _ _ ?_)
    refine sc_text [3, 3, 3] ?_
    refine sr_pu rfl (fun _ => rd_move (ev_t rfl)) ?_
    refine sr_pu rfl (fun _ => rd_add (ev_t rfl) ev_c (fun _ => by omega)) ?_
    refine sr_pu rfl (fun _ => rd_assign (ev_t rfl)) ?_
    refine sr_sub [(4, _, _), (1, _, _), (2, _, _), (3, _, _)] (sub_cons rfl (sub_cons rfl (sub_cons rfl (sub_cons rfl (sub_nil _))))) ?_
    refine sr_nil (fun a ha => ?_)
    exact ⟨i + 1, ha, ⟨⟨h1, _, B1, by rw [take_step h1]; exact hO⟩, g⟩, (andE_mk (blkE B2) (nilE_mk _)), by omega⟩
  · replace h1 : i = t.kids.length := by simp only [decide_eq_false_iff_not] at h1; omega
    subst h1
    rw [List.take_length] at hO B1
    refine sc_exit rfl (hK4 _ _ ?_)
    refine sc_sub [(1, _, _), (2, _, _)] (sub_cons rfl (sub_cons rfl (sub_nil _))) ?_
    refine sc_seq fun K9 hK9 => ?_
    refine sc_text [0, 2] ?_
    refine sr_rd rfl (rd_loads agg_api_Node (ev_t rfl) rfl (fun _ => B1.row)) ?_
    refine sr_store_all rfl sz_api_Node (ev_t rfl) (ev_t rfl) rfl rfl B2 rfl rfl ?_
    intro wS3 hgS3 hzS3
    clear B2
    intro B2
    replace B1 := B1.keep hgS3 (by intro h; injection h with h; omega)
    have g := g_only g hgS3 (by intro k hk; injection hk with hk; omega)
    have hO := hO.keep hgS3 (by simp [Dx])
    refine sr_nil (hK9 _ _ ?_)
    refine sc_ret (t_retv1 rfl (evr_c rfl agg_api_Node rfl (by first | exact B1.row | exact B2.row) (evr_nil)) ?_)
    exact ⟨⟨_, _, rfl, hO.kd fun b hb => hb.1⟩, g⟩
def listN (t : Nd) : List Nd := para (fun t l => t :: l.flatten) t
theorem listN_eq (t : Nd) : listN t = t :: t.kids.flatMap listN := by rw [listN, para_eq, List.flatMap_def]; rfl
theorem listN_length : ∀ t, (listN t).length = count t := by
  refine Nd.ind fun t ih => ?_
  rw [listN_eq, count_eq, List.length_cons, List.length_flatMap, Nat.add_comm]
  congr 2
  exact List.map_congr_left ih
theorem listN_mem : ∀ (t : Nd) (x : Nd), x ∈ listN t → count x ≤ count t := by
  refine Nd.ind fun t ih x hx => ?_
  rw [listN_eq] at hx
  rcases List.mem_cons.1 hx with rfl | hx
  · exact Nat.le_refl _
  · obtain ⟨k, hk, hx⟩ := List.mem_flatMap.1 hx
    have := ih k hk x hx
    have := count_mem hk
    omega
theorem flatMap_take_succ {l : List Nd} {i : Nat} (h : i < l.length) : (l.take (i + 1)).flatMap listN = (l.take i).flatMap listN ++ listN l[i] := by rw [take_step h, List.flatMap_append]; simp only [List.flatMap_cons, List.flatMap_nil, List.append_nil]
theorem flatMap_take_len (l : List Nd) (i : Nat) : ((l.take i).flatMap listN).length = ((l.take i).map count).sum := by
  rw [List.length_flatMap]; congr 1; exact List.map_congr_left fun k _ => listN_length k
theorem rlist_ok : ∀ (t : Nd) (v : Value) (D : Nat → Prop) (w : World), Kd w D t.kids v → count t ≤ 1000000 → Ret PP fn_r03_List #[ndV t v] w fun r w' => Kd w' (fun b => D b ∨ w.heap.size ≤ b) (listN t) r ∧ G w w' := by
  refine Nd.ind fun t ih v D w hk hc => ?_
  obtain ⟨p, c, rfl, hcap, hks⟩ := hk
  have hlen := kids_le t
  have hk0 : Kd w (fun b => D b ∧ b < w.heap.size) t.kids (.slice p t.kids.length c) := Kd.lt ⟨p, c, rfl, hcap, hks⟩
  have g := G.refl w
  refine ret_of_sc (m := 23) func_r03_List rfl rfl [(0, True, _)] (sub_cons rfl (sub_nil _)) ?_
  refine sc_seq fun K1 hK1 => ?_
  refine sc_text [1, 3] ?_
  refine sr_box rfl (ev_t rfl) rfl ?_
  intro b1 w1 N1
  have l1 := N1.ge g
  have g := g.trans (N1.g)
  try have hO := hO.grow (N1.g)
  have B1 := N1.blk
  refine sr_pu rfl (fun _ => rd_assign ev_c) ?_
  refine sr_sub [(1, _, _), (2, _, _)] (sub_cons rfl (sub_cons rfl (sub_nil _))) ?_
  refine sr_nil (hK1 _ _ ?_)
  refine sc_seq fun K2 hK2 => ?_
  refine sc_text [0, 1, 3] ?_
  refine sr_rd rfl (rd_loads agg_api_Node (ev_t rfl) rfl (fun _ => B1.row)) ?_
  refine sr_buildSlice [_, _, _, _, _, _, _, _, _] rfl el_sl_api_Node ze_api_Node (parts_cons (ev_t rfl) (parts_nil)) rfl rfl ?_
  intro b6 w6 N6
  have x6_1 := N6.ne B1
  have l6 := N6.ge g
  have g := g.trans (N6.g)
  replace B1 := B1.grow (N6.g)
  try have hO := hO.grow (N6.g)
  have B6 := N6.blk
  have hO : OwnK ty_api_Node (fun b => (D b ∧ b < w.heap.size) ∨ Dx w.heap.size [b1] b) w.heap.size w6 [t] (.slice (some ⟨b6, 0, none⟩) 1 1) := ownK_one B6 l6 ((hk0.grow g).mono fun k hk _ => ⟨.inl hk, by omega⟩) (.inr ⟨l6, by simp; omega⟩)
  refine sr_pu rfl (fun _ => rd_assign (ev_t rfl)) ?_
  refine sr_sub [(1, _, _), (2, _, _), (3, _, _)] (sub_cons rfl (sub_cons rfl (sub_cons rfl (sub_nil _)))) ?_
  refine sr_nil (hK2 _ _ ?_)
  refine sc_seq fun K3 hK3 => ?_
  refine sc_seq fun K4 hK4 => ?_
  refine sc_text [3] ?_
  refine sr_pu rfl (fun _ => rd_assign ev_c) ?_
  refine sr_nil (hK4 _ _ ?_)
  refine sc_block ?_
  refine sc_loop3 (fun (x : Nat × Option Addr × Nat) u1 => match x with | ⟨i, a, ca⟩ => (i ≤ t.kids.length ∧ OwnK ty_api_Node (fun b => (D b ∧ b < w.heap.size) ∨ Dx w.heap.size [b1] b) w.heap.size u1 (t :: (t.kids.take i).flatMap listN) (.slice a (t :: (t.kids.take i).flatMap listN).length ca)) ∧ G w u1) _ [(1, True, _), (2, True, _)] (fun (x : Nat × Option Addr × Nat) => match x with | ⟨i, a, ca⟩ => [(3, True, .slice a (t :: (t.kids.take i).flatMap listN).length ca), (4, True, .int .i64 i)]) (fun (x : Nat × Option Addr × Nat) => match x with | ⟨i, a, ca⟩ => t.kids.length - i) ((0, some ⟨b6, 0, none⟩, 1)) ⟨⟨Nat.zero_le _, hO⟩, g⟩ (andE_mk (blkE B1) (nilE_mk _)) (sub_cons rfl (sub_cons rfl (sub_cons rfl (sub_cons rfl (sub_nil _))))) ?_
  clear B1 B6
  rintro ⟨i, a, ca⟩ u1 ⟨hI1, gl1⟩ ⟨B1, _⟩
  replace B1 : Blk _ _ _ _ := B1
  have g := gl1
  obtain ⟨hi, hO⟩ := hI1
  refine sc_seq fun K5 hK5 => ?_
  refine sc_seq fun K6 hK6 => ?_
  refine sc_text [3, 3, 0, 3, 3] ?_
  refine sr_pu rfl (fun _ => rd_move (ev_t rfl)) ?_
  refine sr_pu rfl (fun _ => rd_field fo_api_Node_4 (ev_t rfl)) ?_
  refine sr_rd rfl (rd_load one_sl_api_Node (ev_t rfl) (fun _ => B1.at_ rfl)) ?_
  refine sr_pu rfl (fun _ => rd_len el_sl_api_Node (ev_t rfl)) ?_
  refine sr_pu rfl (fun _ => rd_lt (ev_t rfl) (ev_t rfl)) ?_
  refine sr_sub [(1, _, _), (2, _, _), (3, _, _), (4, _, _), (11, _, _)] (sub_cons rfl (sub_cons rfl (sub_cons rfl (sub_cons rfl (sub_cons rfl (sub_nil _)))))) ?_
  refine sr_nil (hK6 _ _ ?_)
  refine sc_cond (ev_t rfl) (fun h1 => ?_) (fun h1 => ?_)
  · replace h1 : i < t.kids.length := by simp only [decide_eq_true_eq] at h1; omega
    obtain ⟨b, o, rfl, hD, xs, hR, hX⟩ := hks (by omega)
    obtain ⟨p', c', hcell, hkid⟩ := kd_at hR hX h1
    have hck := count_kid h1
    have hcl := flatMap_take_len t.kids i
    have hu := g.size
    have hB1lt := B1.lt
    have hOlt := hO.lt
    refine sc_skip (hK5 _ _ ?_)
    refine sc_sub [(1, _, _), (2, _, _), (3, _, _), (4, _, _)] (sub_cons rfl (sub_cons rfl (sub_cons rfl (sub_cons rfl (sub_nil _))))) ?_
    refine sc_seq fun K7 hK7 => ?_
    refine sc_block ?_
    refine sc_text [3, 3, 0, 3, 3, 0, 1, 2, 3] ?_
    refine sr_pu rfl (fun _ => rd_move (ev_t rfl)) ?_
    refine sr_pu rfl (fun _ => rd_field fo_api_Node_4 (ev_t rfl)) ?_
    refine sr_rd rfl (rd_load one_sl_api_Node (ev_t rfl) (fun _ => B1.at_ rfl)) ?_
    refine sr_pu rfl (fun _ => rd_move (ev_t rfl)) ?_
    refine sr_pu rfl (fun _ => rd_idx el_sl_api_Node (ev_t rfl) (ev_t rfl) (fun _ => by omega)) ?_
    refine sr_rd rfl (rd_loads agg_api_Node (ev_t rfl) rfl (fun _ => hcell.grow g)) ?_
    refine sr_call rfl (rc_call go_r03_List ev_f (args_cons (ev_t rfl) (args_nil)) rfl) (ih _ (List.getElem_mem h1) _ (fun b => D b ∧ b < w.heap.size) _ (hkid.old g) (by omega)) ?_
    rintro v20 w20 ⟨⟨p2, c2, rfl, hc2, hr2⟩, g20⟩
    refine ⟨fun _ => g20, ?_⟩
    have g := g.trans g20
    have hln := listN_length t.kids[i]
    have hpos := count_pos t.kids[i]
    obtain ⟨b2, o2, rfl, hD2, ys, hR2, hX2⟩ := hr2 (by omega)
    replace B1 := B1.grow (g20)
    try have hO := hO.grow (g20)
    have hOo := hO
    refine sr_appendK rfl el_sl_api_Node ze_api_Node rfl (ev_t rfl) hO (ev_t rfl) rfl hR2 (hX2.mono fun k hk _ => ⟨hk.elim .inl fun h => .inr ⟨by have h : u1.heap.size ≤ k := h; omega, by have h : u1.heap.size ≤ k := h; simp; omega⟩, fun he => by have := hOlt k he.symm; have hge := hO.ge k he.symm; rcases hk with ⟨_, h⟩ | h <;> omega⟩) (by rw [List.length_cons]; omega) (by have := g.size; omega) (.inr ⟨by have := g.size; omega, by have := B1.lt; simp; omega⟩) ?_
    intro a21 c21 w21 hO hg21
    replace B1 := B1.keep hg21 (hOo.ne (by rintro (h | h); exact absurd h.2 (by omega); simp [Dx] at h))
    have g := g_only g hg21 (fun k hk => hOo.ge k hk)
    refine sr_pu rfl (fun _ => rd_assign (ev_t rfl)) ?_
    refine sr_sub [(1, _, _), (2, _, _), (3, _, _), (4, _, _)] (sub_cons rfl (sub_cons rfl (sub_cons rfl (sub_cons rfl (sub_nil _))))) ?_
    refine sr_nil (hK7 _ _ ?_)
    refine sc_text [3, 3, 3] ?_
    refine sr_pu rfl (fun _ => rd_move (ev_t rfl)) ?_
    refine sr_pu rfl (fun _ => rd_add (ev_t rfl) ev_c (fun _ => by omega)) ?_
    refine sr_pu rfl (fun _ => rd_assign (ev_t rfl)) ?_
    refine sr_sub [(3, _, _), (4, _, _), (1, _, _), (2, _, _)] (sub_cons rfl (sub_cons rfl (sub_cons rfl (sub_cons rfl (sub_nil _))))) ?_
    refine sr_nil (fun a ha => ?_)
    rw [show t :: (t.kids.take i).flatMap listN ++ listN t.kids[i] = t :: (t.kids.take (i + 1)).flatMap listN by rw [flatMap_take_succ h1]; rfl] at ha hO
    exact ⟨(i + 1, a21, c21), ha, ⟨⟨h1, hO⟩, g⟩, (andE_mk (blkE B1) (nilE_mk _)), by show t.kids.length - (i + 1) < t.kids.length - i; omega⟩
  · replace h1 : i = t.kids.length := by simp only [decide_eq_false_iff_not] at h1; omega
    subst h1
    rw [List.take_length, ← listN_eq] at hO
    refine sc_exit rfl (hK3 _ _ ?_)
    refine sc_sub [(2, _, _), (3, _, _)] (sub_cons rfl (sub_cons rfl (sub_nil _))) ?_
    refine sc_seq fun K8 hK8 => ?_
    refine sc_text [3, 3] ?_
    refine sr_pu rfl (fun _ => rd_move (ev_t rfl)) ?_
    refine sr_pu rfl (fun _ => rd_assign (ev_t rfl)) ?_
    refine sr_nil (hK8 _ _ ?_)
    refine sc_ret (t_ret1 rfl rfl ?_)
    refine ⟨?_, g⟩
    rw [List.take_length, ← listN_eq]
    exact hO.kd fun b hb => hb.elim (fun h => .inl h.1) (fun h => .inr h.1)
end Go.Rk
