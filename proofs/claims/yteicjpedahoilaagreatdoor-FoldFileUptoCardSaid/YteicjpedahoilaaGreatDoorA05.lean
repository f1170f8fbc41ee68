/- Merged texts of one road: Own, RefA, RefB, SynA, RefC. Conditions: each text's own. -/
import Derived.Test.YteicjpedahoilaaGreatDoorA04
import Derived.Test.YteicjpedahoilaaGreatDoorA02
set_option linter.unusedSimpArgs false
set_option linter.unusedVariables false
namespace Go.Rk
open Go Go.RowKit
set_option linter.unusedVariables false
/-! loops that carry facts on the world -/
def BlkE (b : Nat) (e : TypeId) (l : List Value) (w : World) : Prop := Blk w b e l
def andE (p q : World → Prop) (w : World) : Prop := p w ∧ q w
def nilE (w : World) : Prop := True
theorem blkE {w : World} {b : Nat} {e : TypeId} {l : List Value} (h : Blk w b e l) : BlkE b e l w := h
theorem andE_mk {p q : World → Prop} {w : World} (h : p w) (k : q w) : andE p q w := ⟨h, k⟩
theorem nilE_mk (w : World) : nilE w := trivial
section
variable {P : Program} {n : Nat} {N T : Act → World → Prop} {X : List (Nat × (Act → World → Prop))} {σ : List Ent} {w : World}
theorem sc_loop3 {c : Code} {α : Type} (I : α → World → Prop) (E : World → Prop) (σc : List Ent) (σf : α → List Ent) (μ : α → Nat) (x0 : α) (h0 : I x0 w) (hE : E w) (hs : Sub (σf x0 ++ σc) σ)
    (round : ∀ x w, I x w → E w → SC P n c (fun a' w' => ∃ y, Kn n (σf y ++ σc) a' ∧ I y w' ∧ E w' ∧ μ y < μ x) X T (σf x ++ σc) w) : SC P n (.loop c) N X T σ w := by
  refine sc_loop (fun x w => I x w ∧ E w) (fun x => σf x ++ σc) μ x0 ⟨h0, hE⟩ hs fun x w ⟨h1, h2⟩ => ?_
  refine fun a ha => Code.wp_mono (fun e a w q => ?_) (round x w h1 h2 a ha)
  cases e with
  | normal => obtain ⟨y, q1, q2, q3, q4⟩ := q; exact ⟨y, q1, ⟨q2, q3⟩, q4⟩
  | _ => exact q
end
theorem krow_ones {w : World} {D : Nat → Prop} : ∀ {ls : List Nd} {news : List Value}, KRow w D ls news → onesB news = true
  | [], news, h => by rw [show news = [] from h]; rfl
  | t :: ls, news, h => by
    obtain ⟨v, r, rfl, hkn, hr⟩ := h
    rw [knd_eq] at hkn
    obtain ⟨p, c, rfl, _⟩ := hkn
    have := krow_ones hr
    unfold onesB at this ⊢
    rw [List.all_append, this, Bool.and_true]; rfl
/-! own rows -/
/-- New blocks but for some. -/
def Dx (base : Nat) (X : List Nat) (b : Nat) : Prop := base ≤ b ∧ b ∉ X
/-- A list of nodes in a row of one's own: the nodes' own blocks are all of D, the row's too. -/
def OwnK (e : TypeId) (D : Nat → Prop) (base : Nat) (w : World) (ks : List Nd) (s : Value) : Prop :=
  ∃ xs, w.ownsRow base e 9 s ks.length xs ∧ KRow w (fun b => D b ∧ some b ≠ s.ownBlock) ks xs ∧ ∀ b, s.ownBlock = some b → D b
section
variable {e : TypeId} {D : Nat → Prop} {base : Nat} {w w' : World} {ks : List Nd} {s : Value}
theorem ownK_nil (e : TypeId) (D : Nat → Prop) (base : Nat) (w : World) : OwnK e D base w [] (.slice none 0 0) := ⟨[], own_none _ _ _ _, krow_nil, fun b h => by cases h⟩
theorem OwnK.slice (h : OwnK e D base w ks s) : ∃ a c, s = .slice a ks.length c := by
  obtain ⟨xs, h1, _⟩ := h
  obtain ⟨a, c, h2, _⟩ := own_sl h1
  exact ⟨a, c, h2⟩
theorem OwnK.ge (h : OwnK e D base w ks s) : ∀ k, s.ownBlock = some k → base ≤ k := by
  obtain ⟨xs, h1, _⟩ := h
  exact fun k hk => (h1.lt k hk).1
theorem OwnK.lt (h : OwnK e D base w ks s) : ∀ k, s.ownBlock = some k → k < w.heap.size := by
  obtain ⟨xs, h1, _⟩ := h
  exact fun k hk => (h1.lt k hk).2
theorem OwnK.ne (h : OwnK e D base w ks s) {b : Nat} (hb : ¬ D b) : some b ≠ s.ownBlock := by
  obtain ⟨xs, _, _, h3⟩ := h
  exact fun he => hb (h3 b he.symm)
theorem OwnK.grow (h : OwnK e D base w ks s) (g : G w w') : OwnK e D base w' ks s := by
  obtain ⟨xs, h1, h2, h3⟩ := h
  exact ⟨xs, own_grow h1 g, h2.grow g, h3⟩
theorem OwnK.keep (h : OwnK e D base w ks s) {b : Nat} (hg : w.grownBy w' (some b)) (hb : ¬ D b) : OwnK e D base w' ks s := by
  obtain ⟨xs, h1, h2, h3⟩ := h
  refine ⟨xs, own_keep h1 hg (.inr fun he => hb (h3 b he)), h2.keep hg fun k hk _ he => ?_, h3⟩
  injection he with he
  exact hb (he ▸ hk.1)
/-- As children. -/
theorem OwnK.kd (h : OwnK e D base w ks s) {D' : Nat → Prop} (hD : ∀ b, D b → D' b) : Kd w D' ks s := by
  obtain ⟨xs, h1, h2, h3⟩ := h
  exact kd_own h1 rfl (h2.mono fun b hb _ => hD b hb.1) fun b hb => hD b (h3 b hb)
theorem OwnK.append {ls : List Nd} {news : List Value} {a' : Option Addr} {c' : Nat} {xs : List Value} (h : OwnK e D base w ks s) (hx : w.ownsRow base e 9 s ks.length xs) (hX : KRow w (fun b => D b ∧ some b ≠ s.ownBlock) ks xs)
    (hn : KRow w (fun b => D b ∧ some b ≠ s.ownBlock) ls news) (hD : D w.heap.size) (ho : w'.ownsRow base e 9 (.slice a' (ks.length + ls.length) c') (ks.length + ls.length) (xs ++ news)) (hg : w.grownBy w' s.ownBlock)
    (hat : (Value.slice a' (ks.length + ls.length) c').ownBlock = s.ownBlock ∨ (Value.slice a' (ks.length + ls.length) c').ownBlock = some w.heap.size) : OwnK e D base w' (ks ++ ls) (.slice a' (ks ++ ls).length c') := by
  have hlen : (ks ++ ls).length = ks.length + ls.length := by simp
  refine ⟨xs ++ news, by rw [hlen]; exact ho, ?_, ?_⟩
  · have h1 := krow_append hX hn
    rw [hlen]
    refine krow_frame (fun b hb hlt => ⟨hb.1, ?_⟩) (fun b hb hlt => hg.block b hlt hb.2) _ _ h1
    rcases hat with he | he <;> rw [he]
    · exact hb.2
    · intro e; injection e with e; omega
  · rw [hlen]
    intro b hb
    rcases hat with he | he <;> rw [he] at hb
    · obtain ⟨_, _, _, h3⟩ := h; exact h3 b hb
    · injection hb with hb; exact hb ▸ hD
end
section
variable {P : Program} {Z : List PanicEntry → Act → World → Prop} {ops : List Oper} {cl : List Nat} {lv : List Bool} {W0 : World} {n : Nat} {K : Act → World → Prop} {k : Nat} {rest : List Oper} {σ : List Ent} {w : World} {d : Nat} {ty : TypeId} {pos : String} {after : Array Edge}
/-- append of nodes to a row of one's own. -/
theorem sr_appendK {t e base q q' : Nat} {x y : Operand} {s zv : Value} {news : List Value} {b' o' : Nat} {D : Nat → Prop} {ks ls : List Nd} (hb : (Nat.beq (clOf cl k) 2 && Nat.blt d n) = true) (ht : tyElem P t = some (e, 9, 104)) (hzv : zeroOf P e = some zv)
    (hzs : zv.cells.size = 9) (hx : Ev n σ True x s) (hO : OwnK e D base w ks s) (hy : Ev n σ True y (.slice (some ⟨b', o', none⟩) q q')) (hq : ls.length = q) (hn : RowAt w b' o' news) (hK : KRow w (fun b => D b ∧ some b ≠ s.ownBlock) ls news)
    (hlen : ks.length + ls.length ≤ 10000000) (hbase : base ≤ w.heap.size) (hD : D w.heap.size)
    (h : ∀ a' c' w', OwnK e D base w' (ks ++ ls) (.slice a' (ks ++ ls).length c') → w.grownBy w' s.ownBlock → SR P Z ops cl lv W0 n K (k + 1) rest ((d, True, .slice a' (ks ++ ls).length c') :: σ) w') :
    SR P Z ops cl lv W0 n K k (⟨some d, .call { callee := .builtin .append, args := #[x, y], argTypes := #[t, t] }, ty, pos, after, none⟩ :: rest) σ w := by
  obtain ⟨xs, h1, h2, h3⟩ := id hO
  subst hq
  have ones := krow_ones hK
  refine sr_append hb ht hzv hzs (by decide) hx h1 hy (krow_length hK) hn ones (by simp only [maxLen]; omega) (by omega) hbase fun a' c' w' ho hg hat => ?_
  have := h a' c' w' (hO.append h1 h2 hK hD ho hg hat) hg
  rwa [List.length_append] at this
end
end Go.Rk
namespace Go.Rk
open Go Go.RowKit
theorem sum_take_succ {l : List Nd} {i : Nat} (f : Nd → Nat) (h : i < l.length) : ((l.take (i + 1)).map f).sum = ((l.take i).map f).sum + f l[i] := by
  rw [take_succ_map f l i h, List.sum_append]; simp
theorem rcount_ok : ∀ (t : Nd) (v : Value) (D : Nat → Prop) (w : World), Kd w D t.kids v → count t ≤ 4611686018427387904 → Ret PP fn_r03_Count #[ndV t v] w fun r w' => r = .int .i64 (count t : Nat) ∧ G w w' := by
  refine Nd.ind fun t ih v D w hk hc => ?_
  obtain ⟨p, c, rfl, hcap, hks⟩ := hk
  have g := G.refl w
  have hlen := kids_le t
  refine ret_of_sc (m := 21) func_r03_Count rfl rfl [(0, True, _)] (sub_cons rfl (sub_nil _)) ?_
  refine sc_seq fun K1 hK1 => ?_
  refine sc_text [1, 3] ?_
  refine sr_box rfl (ev_t rfl) rfl ?_
  intro b1 w1 N1
  have l1 := N1.ge g
  have g := g.trans (N1.g)
  have B1 := N1.blk
  refine sr_pu rfl (fun _ => rd_assign ev_c) ?_
  refine sr_sub [(1, _, _), (2, _, _)] (sub_cons rfl (sub_cons rfl (sub_nil _))) ?_
  refine sr_nil (hK1 _ _ ?_)
  refine sc_seq fun K2 hK2 => ?_
  refine sc_text [3] ?_
  refine sr_pu rfl (fun _ => rd_assign ev_c) ?_
  refine sr_nil (hK2 _ _ ?_)
  refine sc_seq fun K3 hK3 => ?_
  refine sc_seq fun K4 hK4 => ?_
  refine sc_text [3] ?_
  refine sr_pu rfl (fun _ => rd_assign ev_c) ?_
  refine sr_nil (hK4 _ _ ?_)
  refine sc_block ?_
  refine sc_loop2 (fun (i : Nat) u1 => (i ≤ t.kids.length) ∧ G w1 u1) [(1, True, _), (2, True, _)] (fun (i : Nat) => [(3, True, .int .i64 ((1 + ((t.kids.take i).map count).sum : Nat) : Int)), (4, True, .int .i64 i)]) (fun (i : Nat) => t.kids.length - i) (0) ⟨by simp, G.refl _⟩ (sub_cons rfl (sub_cons rfl (sub_cons rfl (sub_cons rfl (sub_nil _))))) ?_
  rintro i u1 ⟨hI1, gl1⟩
  have g := g.trans gl1
  replace B1 := B1.grow (gl1)
  refine sc_seq fun K5 hK5 => ?_
  refine sc_seq fun K6 hK6 => ?_
  refine sc_text [3, 3, 0, 3, 3] ?_
  refine sr_pu rfl (fun _ => rd_move (ev_t rfl)) ?_
  refine sr_pu rfl (fun _ => rd_field fo_api_Node_4 (ev_t rfl)) ?_
  refine sr_rd rfl (rd_load one_sl_api_Node (ev_t rfl) (fun _ => B1.at_ rfl)) ?_
  refine sr_pu rfl (fun _ => rd_len el_sl_api_Node (ev_t rfl)) ?_
  refine sr_pu rfl (fun _ => rd_lt (ev_t rfl) (ev_t rfl)) ?_
  refine sr_sub [(1, _, _), (2, _, _), (3, _, _), (4, _, _), (9, _, _)] (sub_cons rfl (sub_cons rfl (sub_cons rfl (sub_cons rfl (sub_cons rfl (sub_nil _)))))) ?_
  refine sr_nil (hK6 _ _ ?_)
  refine sc_cond (ev_t rfl) (fun h1 => ?_) (fun h1 => ?_)
  · replace h1 : i < t.kids.length := by simp only [decide_eq_true_eq] at h1; omega
    obtain ⟨b, o, rfl, hD, xs, hR, hX⟩ := hks (by omega)
    obtain ⟨p', c', hcell, hkid⟩ := kd_at hR hX h1
    have hck := count_kid h1
    refine sc_skip (hK5 _ _ ?_)
    refine sc_sub [(1, _, _), (2, _, _), (3, _, _), (4, _, _)] (sub_cons rfl (sub_cons rfl (sub_cons rfl (sub_cons rfl (sub_nil _))))) ?_
    refine sc_seq fun K7 hK7 => ?_
    refine sc_block ?_
    refine sc_text [3, 3, 0, 3, 3, 0, 1, 3, 3] ?_
    refine sr_pu rfl (fun _ => rd_move (ev_t rfl)) ?_
    refine sr_pu rfl (fun _ => rd_field fo_api_Node_4 (ev_t rfl)) ?_
    refine sr_rd rfl (rd_load one_sl_api_Node (ev_t rfl) (fun _ => B1.at_ rfl)) ?_
    refine sr_pu rfl (fun _ => rd_move (ev_t rfl)) ?_
    refine sr_pu rfl (fun _ => rd_idx el_sl_api_Node (ev_t rfl) (ev_t rfl) (fun _ => by omega)) ?_
    refine sr_rd rfl (rd_loads agg_api_Node (ev_t rfl) rfl (fun _ => hcell.grow g)) ?_
    refine sr_pure rfl (rc_call go_r03_Count ev_f (args_cons (ev_t rfl) (args_nil)) rfl) (ih _ (List.getElem_mem h1) _ _ _ (hkid.grow g) (by omega)) (fun w18 g18 => ?_)
    have g := g.trans (g18)
    try have gl1 := gl1.trans (g18)
    replace B1 := B1.grow (g18)
    refine sr_pu rfl (fun _ => rd_add (ev_t rfl) (ev_t rfl) (fun _ => by omega)) ?_
    refine sr_pu rfl (fun _ => rd_assign (ev_t rfl)) ?_
    refine sr_sub [(1, _, _), (2, _, _), (3, _, _), (4, _, _)] (sub_cons rfl (sub_cons rfl (sub_cons rfl (sub_cons rfl (sub_nil _))))) ?_
    refine sr_nil (hK7 _ _ ?_)
    refine sc_text [3, 3, 3] ?_
    refine sr_pu rfl (fun _ => rd_move (ev_t rfl)) ?_
    refine sr_pu rfl (fun _ => rd_add (ev_t rfl) ev_c (fun _ => by omega)) ?_
    refine sr_pu rfl (fun _ => rd_assign (ev_t rfl)) ?_
    refine sr_sub [(3, _, _), (4, _, _), (1, _, _), (2, _, _)] (sub_cons rfl (sub_cons rfl (sub_cons rfl (sub_cons rfl (sub_nil _))))) ?_
    refine sr_nil (fun a ha => ?_)
    have e : ((1 + ((t.kids.take i).map count).sum : Nat) : Int) + (count t.kids[i] : Nat) = ((1 + ((t.kids.take (i + 1)).map count).sum : Nat) : Int) := by rw [sum_take_succ count h1]; omega
    rw [e] at ha
    exact ⟨i + 1, ha, ⟨h1, gl1⟩, by omega⟩
  replace h1 : i = t.kids.length := by simp only [decide_eq_false_iff_not] at h1; omega
  refine sc_exit rfl (hK3 _ _ ?_)
  refine sc_sub [(2, _, _), (3, _, _)] (sub_cons rfl (sub_cons rfl (sub_nil _))) ?_
  refine sc_seq fun K8 hK8 => ?_
  refine sc_text [3, 3] ?_
  refine sr_pu rfl (fun _ => rd_move (ev_t rfl)) ?_
  refine sr_pu rfl (fun _ => rd_assign (ev_t rfl)) ?_
  refine sr_nil (hK8 _ _ ?_)
  refine sc_ret (t_ret1 rfl rfl ?_)
  refine ⟨?_, g⟩
  rw [h1, List.take_length, ← count_eq]
end Go.Rk
namespace Go.Rk
open Go Go.RowKit
theorem take_step {α : Type} {l : List α} {i : Nat} (h : i < l.length) : l.take (i + 1) = l.take i ++ [l[i]] := by
  rw [List.take_add_one, List.getElem?_eq_getElem h]; rfl
/-- A tree comes back in new memory. -/
def RetNd (t : Nd) (base : Nat) (r : Value) (w : World) : Prop := ∃ p c, r = ndV t (.slice p t.kids.length c) ∧ Kd w (fun b => base ≤ b) t.kids (.slice p t.kids.length c)
theorem rcopy_ok : ∀ (t : Nd) (v : Value) (D : Nat → Prop) (w : World), Kd w D t.kids v → t.kids.length ≤ 1000000 → count t ≤ 1000000 → Ret PP fn_r03_Copy #[ndV t v] w fun r w' => RetNd t w.heap.size r w' ∧ G w w' := by
  refine Nd.ind fun t ih v D w hk hlen hc => ?_
  obtain ⟨p, c, rfl, hcap, hks⟩ := hk
  have g := G.refl w
  refine ret_of_sc (m := 25) func_r03_Copy rfl rfl [(0, True, _)] (sub_cons rfl (sub_nil _)) ?_
  refine sc_seq fun K1 hK1 => ?_
  refine sc_text [1, 1] ?_
  refine sr_box rfl (ev_t rfl) rfl ?_
  intro b1 w1 N1
  have l1 := N1.ge g
  have g := g.trans (N1.g)
  try have hO := hO.grow (N1.g)
  have B1 := N1.blk
  refine sr_alloc rfl ze_api_Node rfl ?_
  intro b2 w2 N2
  have x2_1 := N2.ne B1
  have l2 := N2.ge g
  have g := g.trans (N2.g)
  replace B1 := B1.grow (N2.g)
  try have hO := hO.grow (N2.g)
  have B2 := N2.blk
  refine sr_sub [(1, _, _), (2, _, _)] (sub_cons rfl (sub_cons rfl (sub_nil _))) ?_
  refine sr_nil (hK1 _ _ ?_)
  refine sc_seq fun K2 hK2 => ?_
  refine sc_text [3, 0, 3] ?_
  refine sr_pu rfl (fun _ => rd_field fo_api_Node_4 (ev_t rfl)) ?_
  refine sr_rd rfl (rd_load one_sl_api_Node (ev_t rfl) (fun _ => B1.at_ rfl)) ?_
  refine sr_pu rfl (fun _ => rd_assign (ev_t rfl)) ?_
  refine sr_sub [(1, _, _), (2, _, _), (3, _, _)] (sub_cons rfl (sub_cons rfl (sub_cons rfl (sub_nil _)))) ?_
  refine sr_nil (hK2 _ _ ?_)
  refine sc_seq fun K3 hK3 => ?_
  refine sc_text [3, 2] ?_
  refine sr_pu rfl (fun _ => rd_field fo_api_Node_4 (ev_t rfl)) ?_
  refine sr_store_one rfl sz_sl_api_Node (ev_t rfl) ev_c rfl B1 rfl rfl ?_
  intro wS1 hgS1 hzS1
  clear B1
  intro B1
  replace B2 := B2.keep hgS1 (by intro h; injection h with h; first | exact x1_2 h.symm | exact x2_1 h | omega)
  have g := g_only g hgS1 (by intro k hk; injection hk with hk; omega)
  refine sr_sub [(1, _, _), (2, _, _), (3, _, _)] (sub_cons rfl (sub_cons rfl (sub_cons rfl (sub_nil _)))) ?_
  refine sr_nil (hK3 _ _ ?_)
  refine sc_seq fun K4 hK4 => ?_
  refine sc_seq fun K5 hK5 => ?_
  refine sc_text [3] ?_
  refine sr_pu rfl (fun _ => rd_assign ev_c) ?_
  refine sr_nil (hK5 _ _ ?_)
  refine sc_block ?_
  refine sc_loop3 (fun (i : Nat) u1 => (i ≤ t.kids.length ∧ ∃ s, Blk u1 b1 ty_api_Node (ndCells t s) ∧ OwnK ty_api_Node (Dx w.heap.size [b1, b2]) w.heap.size u1 (t.kids.take i) s) ∧ G w u1) _ [(1, True, _), (2, True, _), (3, True, _)] (fun (i : Nat) => [(4, True, .int .i64 i)]) (fun (i : Nat) => t.kids.length - i) (0) ⟨⟨Nat.zero_le _, _, B1, ownK_nil _ _ _ _⟩, g⟩ (andE_mk (blkE B2) (nilE_mk _)) (sub_cons rfl (sub_cons rfl (sub_cons rfl (sub_cons rfl (sub_nil _))))) ?_
  clear B1 B2
  rintro i u1 ⟨hI1, gl1⟩ ⟨B2, _⟩
  replace B2 : Blk _ _ _ _ := B2
  have g := gl1
  obtain ⟨hi, s, B1, hO⟩ := hI1
  obtain ⟨sa, sc, rfl⟩ := hO.slice
  refine sc_seq fun K6 hK6 => ?_
  refine sc_seq fun K7 hK7 => ?_
  refine sc_text [3, 3, 3, 3] ?_
  refine sr_pu rfl (fun _ => rd_move (ev_t rfl)) ?_
  refine sr_pu rfl (fun _ => rd_move (ev_t rfl)) ?_
  refine sr_pu rfl (fun _ => rd_len el_sl_api_Node (ev_t rfl)) ?_
  refine sr_pu rfl (fun _ => rd_lt (ev_t rfl) (ev_t rfl)) ?_
  refine sr_sub [(1, _, _), (2, _, _), (3, _, _), (4, _, _), (11, _, _)] (sub_cons rfl (sub_cons rfl (sub_cons rfl (sub_cons rfl (sub_cons rfl (sub_nil _)))))) ?_
  refine sr_nil (hK7 _ _ ?_)
  refine sc_cond (ev_t rfl) (fun h1 => ?_) (fun h1 => ?_)
  · replace h1 : i < t.kids.length := by simp only [decide_eq_true_eq] at h1; omega
    obtain ⟨b, o, rfl, hD, xs, hR, hX⟩ := hks (by omega)
    obtain ⟨p', c', hcell, hkid⟩ := kd_at hR hX h1
    have hck := count_kid h1
    have hkl := kids_le t.kids[i]
    have hu := g.size
    refine sc_skip (hK6 _ _ ?_)
    refine sc_sub [(1, _, _), (2, _, _), (3, _, _), (4, _, _)] (sub_cons rfl (sub_cons rfl (sub_cons rfl (sub_cons rfl (sub_nil _))))) ?_
    refine sc_seq fun K8 hK8 => ?_
    refine sc_block ?_
    refine sc_draw [3, 0, 3, 3, 3, 0, 1, 1, 2, 3, 2] [true, true, true, true, true, true, true, true, true, true, true] [0, 1, 0, 0, 12, 28, 60, 124, 255, 511, 1023] mix (by kernel_rfl) ?_
    have g := g.trans (G.drew _)
    replace B1 := B1.grow (G.drew _)
    replace B2 := B2.grow (G.drew _)
    try have hO := hO.grow (G.drew _)
    have hB1lt := B1.lt
    have hB2lt := B2.lt
    have hOlt := hO.lt
    refine sr_pu rfl (fun _ => rd_field fo_api_Node_4 (ev_t rfl)) ?_
    refine sr_rd rfl (rd_load one_sl_api_Node (ev_t rfl) (fun _ => B1.at_ rfl)) ?_
    refine sr_pu rfl (fun _ => rd_move (ev_t rfl)) ?_
    refine sr_pu rfl (fun _ => rd_move (ev_t rfl)) ?_
    refine sr_pu rfl (fun _ => rd_idx el_sl_api_Node (ev_t rfl) (ev_t rfl) (fun _ => by omega)) ?_
    refine sr_rd rfl (rd_loads agg_api_Node (ev_t rfl) rfl (fun _ => hcell.grow g)) ?_
    refine sr_call rfl (rc_call go_r03_Copy ev_f (args_cons (ev_t rfl) (args_nil)) rfl) (ih _ (List.getElem_mem h1) _ _ _ (hkid.grow g) (by omega) (by omega)) ?_
    rintro v20 w20 ⟨⟨p2, c2, rfl, hk2⟩, g20⟩
    refine ⟨fun _ => g20, ?_⟩
    have g := g.trans g20
    replace B1 := B1.grow (g20)
    replace B2 := B2.grow (g20)
    try have hO := hO.grow (g20)
    refine sr_buildSlice [_, _, _, _, _, _, _, _, _] rfl el_sl_api_Node ze_api_Node (parts_cons (ev_t rfl) (parts_nil)) rfl rfl ?_
    intro b21 w21 N21
    have x21_1 := N21.ne B1
    have x21_2 := N21.ne B2
    have l21 := N21.ge g
    have g := g.trans (N21.g)
    replace B1 := B1.grow (N21.g)
    replace B2 := B2.grow (N21.g)
    try have hO := hO.grow (N21.g)
    have B21 := N21.blk
    have hk2 := hk2.grow N21.g
    have hOo := hO
    refine sr_appendK rfl el_sl_api_Node ze_api_Node rfl (ev_t rfl) hO (ev_t rfl) rfl B21.row (krow_one (hk2.mono fun k hk _ => ⟨⟨by have : u1.heap.size ≤ k := hk; omega, by have : u1.heap.size ≤ k := hk; have := hB1lt; have := hB2lt; simp; omega⟩, fun he => by have := hOlt k he.symm; have : u1.heap.size ≤ k := hk; omega⟩)) (by simp; omega) (by have := g.size; omega) ⟨by have := g.size; omega, by have q1 := B1.lt; have q2 := B2.lt; simp; omega⟩ ?_
    intro a22 c22 w22 hO hg22
    replace B1 := B1.keep hg22 (hOo.ne (by simp [Dx]))
    replace B2 := B2.keep hg22 (hOo.ne (by simp [Dx]))
    have g := g_only g hg22 (fun k hk => hOo.ge k hk)
    refine sr_pu rfl (fun _ => rd_field fo_api_Node_4 (ev_t rfl)) ?_
    refine sr_store_one rfl sz_sl_api_Node (ev_t rfl) (ev_t rfl) rfl B1 rfl rfl ?_
    intro wS2 hgS2 hzS2
    clear B1
    intro B1
    replace B2 := B2.keep hgS2 (by intro h; injection h with h; first | exact x1_2 h.symm | exact x2_1 h | omega)
    have g := g_only g hgS2 (by intro k hk; injection hk with hk; omega)
    have hO := hO.keep hgS2 (by simp [Dx])
    refine sr_sub [(1, _, _), (2, _, _), (3, _, _), (4, _, _)] (sub_cons rfl (sub_cons rfl (sub_cons rfl (sub_cons rfl (sub_nil _))))) ?_
    refine sr_nil (hK8 _ _ ?_)
    refine sc_text [3, 3, 3] ?_
    refine sr_pu rfl (fun _ => rd_move (ev_t rfl)) ?_
    refine sr_pu rfl (fun _ => rd_add (ev_t rfl) ev_c (fun _ => by omega)) ?_
    refine sr_pu rfl (fun _ => rd_assign (ev_t rfl)) ?_
    refine sr_sub [(4, _, _), (1, _, _), (2, _, _), (3, _, _)] (sub_cons rfl (sub_cons rfl (sub_cons rfl (sub_cons rfl (sub_nil _))))) ?_
    refine sr_nil (fun a ha => ?_)
    exact ⟨i + 1, ha, ⟨⟨h1, _, B1, by rw [take_step h1]; exact hO⟩, g⟩, (andE_mk (blkE B2) (nilE_mk _)), by omega⟩
  replace h1 : i = t.kids.length := by simp only [decide_eq_false_iff_not] at h1; omega
  subst h1
  rw [List.take_length] at hO B1
  refine sc_exit rfl (hK4 _ _ ?_)
  refine sc_sub [(1, _, _), (2, _, _)] (sub_cons rfl (sub_cons rfl (sub_nil _))) ?_
  refine sc_seq fun K9 hK9 => ?_
  refine sc_text [0, 2] ?_
  refine sr_rd rfl (rd_loads agg_api_Node (ev_t rfl) rfl (fun _ => B1.row)) ?_
  refine sr_store_all rfl sz_api_Node (ev_t rfl) (ev_t rfl) rfl rfl B2 rfl rfl ?_
  intro wS3 hgS3 hzS3
  clear B2
  intro B2
  replace B1 := B1.keep hgS3 (by intro h; injection h with h; first | exact x2_1 h.symm | exact x1_2 h | omega)
  have g := g_only g hgS3 (by intro k hk; injection hk with hk; omega)
  have hO := hO.keep hgS3 (by simp [Dx])
  refine sr_nil (hK9 _ _ ?_)
  refine sc_ret (t_retv1 rfl (evr_c rfl agg_api_Node rfl (by first | exact B1.row | exact B2.row) (evr_nil)) ?_)
  exact ⟨⟨_, _, rfl, hO.kd fun b hb => hb.1⟩, g⟩
def listN (t : Nd) : List Nd := para (fun t l => t :: l.flatten) t
end Go.Rk
namespace Go.Rk
open Go Go.RowKit
def typK (k : Int) : Bool := anyK [7, 8] k
def expK (k : Int) : Bool := anyK [28, 29, 30, 31, 32, 33, 35, 36, 37, 27, 34, 24, 25, 26, 38] k
def stK (k : Int) : Bool := anyK [6, 10, 11, 12, 13, 14, 15, 16, 17, 21, 18, 19, 20, 22] k
def memK (l : List Int) (k : Int) : Bool := decide (k ∈ l)
theorem synname_ok (s : List UInt8) (w : World) (hL : Laid w) (hb3 : 6 ≤ w.heap.size) : Ret PP fn_syntax_name #[Str s] w fun v w' => v = .bool (nameB s) ∧ G w w' := by
  have g := G.refl w
  refine ret_of_sc (m := 34) func_syntax_name rfl rfl [(0, True, _)] (sub_cons rfl (sub_nil _)) ?_
  refine sc_seq fun K1 hK1 => ?_
  refine sc_text [3] ?_
  refine sr_pu rfl (fun _ => rd_assign ev_c) ?_
  refine sr_nil (hK1 _ _ ?_)
  refine sc_seq fun K2 hK2 => ?_
  refine sc_text [3, 1, 3, 3, 3, 3, 3, 3, 3] ?_
  refine sr_pu rfl (fun _ => rd_move (ev_t rfl)) ?_
  refine sr_call rfl (rc_call go_scan_Scan ev_f (args_cons (ev_t rfl) (args_nil)) rfl) (scan_ok s _ (hL.grow g) (by have := g.size; omega)) ?_
  rintro v8 w8 ⟨l, rfl, hT, g8⟩
  obtain ⟨a, c, rfl, hr⟩ := toks_slice hT
  refine ⟨fun _ => g8, ?_⟩
  have g := g.trans g8
  refine sr_pu rfl (fun _ => rd_move (ev_t rfl)) ?_
  refine sr_pu rfl (fun _ => rd_extract (ev_t rfl) rfl) ?_
  refine sr_pu rfl (fun _ => rd_extract (ev_t rfl) rfl) ?_
  refine sr_pu rfl (fun _ => rd_extract (ev_t rfl) rfl) ?_
  refine sr_pu rfl (fun _ => rd_assign (ev_t rfl)) ?_
  refine sr_pu rfl (fun _ => rd_assign (ev_t rfl)) ?_
  refine sr_pu rfl (fun _ => rd_assign (ev_t rfl)) ?_
  refine sr_sub [(0, _, _), (2, _, _), (3, _, _), (5, _, _)] (sub_cons rfl (sub_cons rfl (sub_cons rfl (sub_cons rfl (sub_nil _))))) ?_
  refine sr_nil (hK2 _ _ ?_)
  refine sc_seq fun K3 hK3 => ?_
  refine sc_text [3, 3, 3, 3, 3, 3, 3, 3, 3, 3, 3, 0, 3, 3, 3, 3, 3, 3, 0, 3, 3, 3, 3] ?_
  refine sr_pu rfl (fun _ => rd_move (ev_t rfl)) ?_
  refine sr_pu rfl (fun _ => rd_eq (ev_t rfl) ev_c) ?_
  refine sr_pu rfl (fun _ => rd_move (ev_t rfl)) ?_
  refine sr_pug rfl rfl rfl (fun _ => rd_move (ev_t rfl)) ?_
  refine sr_pug rfl rfl rfl (fun _ => rd_len el_sl_api_Token (ev_u rfl id)) ?_
  refine sr_pug rfl rfl rfl (fun _ => rd_eq (ev_u rfl id) ev_c) ?_
  refine sr_pu rfl (fun _ => rd_pick_and (ev_t rfl) (ev_u rfl id)) ?_
  refine sr_pu rfl (fun _ => rd_move (ev_t rfl)) ?_
  refine sr_pug rfl rfl rfl (fun _ => rd_move (ev_t rfl)) ?_
  refine sr_pug rfl rfl rfl (fun _ => rd_idxq el_sl_api_Token (ev_u rfl id) ev_c (fun hc => by have := of_decide_eq_true (Bool.and_eq_true_iff.1 hc.2).2; omega) (fun hc => (hr (by have := of_decide_eq_true (Bool.and_eq_true_iff.1 hc.2).2; omega)).1)) ?_
  refine sr_pug rfl rfl rfl (fun _ => rd_field fo_api_Token_0 (ev_u rfl id)) ?_
  refine sr_rdg rfl rfl rfl (rd_load one_int (ev_u rfl id) (fun hc => (hr (by have := of_decide_eq_true (Bool.and_eq_true_iff.1 hc.2).2; omega)).2 0 _ rfl)) ?_
  refine sr_pug rfl rfl rfl (fun _ => rd_eq (ev_u rfl id) ev_c) ?_
  refine sr_pu rfl (fun _ => rd_pick_and (ev_t rfl) (ev_u rfl id)) ?_
  refine sr_pu rfl (fun _ => rd_move (ev_t rfl)) ?_
  refine sr_pug rfl rfl rfl (fun _ => rd_move (ev_t rfl)) ?_
  refine sr_pug rfl rfl rfl (fun _ => rd_idxq el_sl_api_Token (ev_u rfl id) ev_c (fun hc => by have := of_decide_eq_true (Bool.and_eq_true_iff.1 (Bool.and_eq_true_iff.1 hc.2).1).2; omega) (fun hc => (hr (by have := of_decide_eq_true (Bool.and_eq_true_iff.1 (Bool.and_eq_true_iff.1 hc.2).1).2; omega)).1)) ?_
  refine sr_pug rfl rfl rfl (fun _ => rd_field fo_api_Token_1 (ev_u rfl id)) ?_
  refine sr_rdg rfl rfl rfl (rd_load one_string (ev_u rfl id) (fun hc => (hr (by have := of_decide_eq_true (Bool.and_eq_true_iff.1 (Bool.and_eq_true_iff.1 hc.2).1).2; omega)).2 1 _ rfl)) ?_
  refine sr_pug rfl rfl rfl (fun _ => rd_move (ev_t rfl)) ?_
  refine sr_pug rfl rfl rfl (fun _ => rd_seq (ev_u rfl id) (ev_u rfl id)) ?_
  refine sr_pu rfl (fun _ => rd_pick_and (ev_t rfl) (ev_u rfl id)) ?_
  refine sr_pu rfl (fun _ => rd_assign (ev_t rfl)) ?_
  refine sr_sub [(2, _, _)] (sub_cons rfl (sub_nil _)) ?_
  refine sr_nil (hK3 _ _ ?_)
  refine sc_ret (t_ret1 rfl rfl ?_)
  refine ⟨congrArg Value.bool ?_, g⟩
  rw [← nameP_eq]; rfl
theorem typed_ok (k : Int) (w : World) : Ret PP fn_syntax_typed #[.int .i64 k] w fun v w' => v = .bool (typK k) ∧ G w w' := by
  have g := G.refl w
  refine ret_of_sc (m := 9) func_syntax_typed rfl rfl [(0, True, _)] (sub_cons rfl (sub_nil _)) ?_
  refine sc_seq fun K1 hK1 => ?_
  refine sc_text [3] ?_
  refine sr_pu rfl (fun _ => rd_assign ev_c) ?_
  refine sr_nil (hK1 _ _ ?_)
  refine sc_seq fun K2 hK2 => ?_
  refine sc_text [3, 3, 3, 3, 3, 3, 3] ?_
  refine sr_pu rfl (fun _ => rd_move (ev_t rfl)) ?_
  refine sr_pu rfl (fun _ => rd_eq (ev_t rfl) ev_c) ?_
  refine sr_pu rfl (fun _ => rd_move (ev_t rfl)) ?_
  refine sr_pug rfl rfl rfl (fun _ => rd_move (ev_t rfl)) ?_
  refine sr_pug rfl rfl rfl (fun _ => rd_eq (ev_u rfl id) ev_c) ?_
  refine sr_pu rfl (fun _ => rd_pick_or (ev_t rfl) (ev_u rfl id)) ?_
  refine sr_pu rfl (fun _ => rd_assign (ev_t rfl)) ?_
  refine sr_sub [(2, _, _)] (sub_cons rfl (sub_nil _)) ?_
  refine sr_nil (hK2 _ _ ?_)
  refine sc_ret (t_ret1 rfl rfl ?_)
  exact ⟨rfl, g⟩
theorem expression_ok (k : Int) (w : World) : Ret PP fn_syntax_expression #[.int .i64 k] w fun v w' => v = .bool (expK k) ∧ G w w' := by
  have g := G.refl w
  refine ret_of_sc (m := 20) func_syntax_expression rfl rfl [(0, True, _)] (sub_cons rfl (sub_nil _)) ?_
  refine sc_seq fun K1 hK1 => ?_
  refine sc_text [3] ?_
  refine sr_pu rfl (fun _ => rd_assign ev_c) ?_
  refine sr_nil (hK1 _ _ ?_)
  refine sc_seq fun K2 hK2 => ?_
  refine sc_seq fun K3 hK3 => ?_
  refine sc_text [3] ?_
  refine sr_pu rfl (fun _ => rd_move (ev_t rfl)) ?_
  refine sr_sub [(2, _, _), (3, _, _)] (sub_cons rfl (sub_cons rfl (sub_nil _))) ?_
  refine sr_nil (hK3 _ _ ?_)
  refine sc_block ?_
  refine sc_seq fun K4 hK4 => ?_
  refine sc_seq fun K5 hK5 => ?_
  refine sc_text [3, 3] ?_
  refine sr_pu rfl (fun _ => rd_eq (ev_t rfl) ev_c) ?_
  refine sr_pu rfl (fun _ => rd_assign (ev_t rfl)) ?_
  refine sr_sub [(2, _, _), (3, _, _), (4, _, _)] (sub_cons rfl (sub_cons rfl (sub_cons rfl (sub_nil _)))) ?_
  refine sr_nil (hK5 _ _ ?_)
  refine' sc_or [(2, _, _)] (sub_cons rfl (sub_cons rfl (sub_nil _))) rfl (fun hb1 => ?y1) (hK4 _ _ ?n1)
  case y1 =>
   refine sc_seq fun K6 hK6 => ?_
   refine sc_text [3, 3] ?_
   refine sr_pu rfl (fun _ => rd_eq (ev_t rfl) ev_c) ?_
   refine sr_pu rfl (fun _ => rd_assign (ev_t rfl)) ?_
   refine sr_sub [(2, _, _), (3, _, _), (4, _, _)] (sub_cons rfl (sub_cons rfl (sub_cons rfl (sub_nil _)))) ?_
   refine sr_nil (hK6 _ _ ?_)
   refine' sc_or [(2, _, _)] (sub_cons rfl (sub_cons rfl (sub_nil _))) rfl (fun hb2 => ?y2) (fun a ha => ⟨ha, rfl⟩)
   case y2 =>
    refine sc_seq fun K7 hK7 => ?_
    refine sc_text [3, 3] ?_
    refine sr_pu rfl (fun _ => rd_eq (ev_t rfl) ev_c) ?_
    refine sr_pu rfl (fun _ => rd_assign (ev_t rfl)) ?_
    refine sr_sub [(2, _, _), (3, _, _), (4, _, _)] (sub_cons rfl (sub_cons rfl (sub_cons rfl (sub_nil _)))) ?_
    refine sr_nil (hK7 _ _ ?_)
    refine' sc_or [(2, _, _)] (sub_cons rfl (sub_cons rfl (sub_nil _))) rfl (fun hb3 => ?y3) (fun a ha => ⟨ha, rfl⟩)
    case y3 =>
     refine sc_seq fun K8 hK8 => ?_
     refine sc_text [3, 3] ?_
     refine sr_pu rfl (fun _ => rd_eq (ev_t rfl) ev_c) ?_
     refine sr_pu rfl (fun _ => rd_assign (ev_t rfl)) ?_
     refine sr_sub [(2, _, _), (3, _, _), (4, _, _)] (sub_cons rfl (sub_cons rfl (sub_cons rfl (sub_nil _)))) ?_
     refine sr_nil (hK8 _ _ ?_)
     refine' sc_or [(2, _, _)] (sub_cons rfl (sub_cons rfl (sub_nil _))) rfl (fun hb4 => ?y4) (fun a ha => ⟨ha, rfl⟩)
     case y4 =>
      refine sc_seq fun K9 hK9 => ?_
      refine sc_text [3, 3] ?_
      refine sr_pu rfl (fun _ => rd_eq (ev_t rfl) ev_c) ?_
      refine sr_pu rfl (fun _ => rd_assign (ev_t rfl)) ?_
      refine sr_sub [(2, _, _), (3, _, _), (4, _, _)] (sub_cons rfl (sub_cons rfl (sub_cons rfl (sub_nil _)))) ?_
      refine sr_nil (hK9 _ _ ?_)
      refine' sc_or [(2, _, _)] (sub_cons rfl (sub_cons rfl (sub_nil _))) rfl (fun hb5 => ?y5) (fun a ha => ⟨ha, rfl⟩)
      case y5 =>
       refine sc_seq fun K10 hK10 => ?_
       refine sc_text [3, 3] ?_
       refine sr_pu rfl (fun _ => rd_eq (ev_t rfl) ev_c) ?_
       refine sr_pu rfl (fun _ => rd_assign (ev_t rfl)) ?_
       refine sr_sub [(2, _, _), (3, _, _), (4, _, _)] (sub_cons rfl (sub_cons rfl (sub_cons rfl (sub_nil _)))) ?_
       refine sr_nil (hK10 _ _ ?_)
       refine' sc_or [(2, _, _)] (sub_cons rfl (sub_cons rfl (sub_nil _))) rfl (fun hb6 => ?y6) (fun a ha => ⟨ha, rfl⟩)
       case y6 =>
        refine sc_seq fun K11 hK11 => ?_
        refine sc_text [3, 3] ?_
        refine sr_pu rfl (fun _ => rd_eq (ev_t rfl) ev_c) ?_
        refine sr_pu rfl (fun _ => rd_assign (ev_t rfl)) ?_
        refine sr_sub [(2, _, _), (3, _, _), (4, _, _)] (sub_cons rfl (sub_cons rfl (sub_cons rfl (sub_nil _)))) ?_
        refine sr_nil (hK11 _ _ ?_)
        refine' sc_or [(2, _, _)] (sub_cons rfl (sub_cons rfl (sub_nil _))) rfl (fun hb7 => ?y7) (fun a ha => ⟨ha, rfl⟩)
        case y7 =>
         refine sc_seq fun K12 hK12 => ?_
         refine sc_text [3, 3] ?_
         refine sr_pu rfl (fun _ => rd_eq (ev_t rfl) ev_c) ?_
         refine sr_pu rfl (fun _ => rd_assign (ev_t rfl)) ?_
         refine sr_sub [(2, _, _), (3, _, _), (4, _, _)] (sub_cons rfl (sub_cons rfl (sub_cons rfl (sub_nil _)))) ?_
         refine sr_nil (hK12 _ _ ?_)
         refine' sc_or [(2, _, _)] (sub_cons rfl (sub_cons rfl (sub_nil _))) rfl (fun hb8 => ?y8) (fun a ha => ⟨ha, rfl⟩)
         case y8 =>
          refine sc_seq fun K13 hK13 => ?_
          refine sc_text [3, 3] ?_
          refine sr_pu rfl (fun _ => rd_eq (ev_t rfl) ev_c) ?_
          refine sr_pu rfl (fun _ => rd_assign (ev_t rfl)) ?_
          refine sr_sub [(2, _, _), (3, _, _), (4, _, _)] (sub_cons rfl (sub_cons rfl (sub_cons rfl (sub_nil _)))) ?_
          refine sr_nil (hK13 _ _ ?_)
          refine' sc_or [(2, _, _)] (sub_cons rfl (sub_cons rfl (sub_nil _))) rfl (fun hb9 => ?y9) (fun a ha => ⟨ha, rfl⟩)
          case y9 =>
           refine sc_seq fun K14 hK14 => ?_
           refine sc_text [3, 3] ?_
           refine sr_pu rfl (fun _ => rd_eq (ev_t rfl) ev_c) ?_
           refine sr_pu rfl (fun _ => rd_assign (ev_t rfl)) ?_
           refine sr_sub [(2, _, _), (3, _, _), (4, _, _)] (sub_cons rfl (sub_cons rfl (sub_cons rfl (sub_nil _)))) ?_
           refine sr_nil (hK14 _ _ ?_)
           refine' sc_or [(2, _, _)] (sub_cons rfl (sub_cons rfl (sub_nil _))) rfl (fun hb10 => ?y10) (fun a ha => ⟨ha, rfl⟩)
           case y10 =>
            refine sc_seq fun K15 hK15 => ?_
            refine sc_text [3, 3] ?_
            refine sr_pu rfl (fun _ => rd_eq (ev_t rfl) ev_c) ?_
            refine sr_pu rfl (fun _ => rd_assign (ev_t rfl)) ?_
            refine sr_sub [(2, _, _), (3, _, _), (4, _, _)] (sub_cons rfl (sub_cons rfl (sub_cons rfl (sub_nil _)))) ?_
            refine sr_nil (hK15 _ _ ?_)
            refine' sc_or [(2, _, _)] (sub_cons rfl (sub_cons rfl (sub_nil _))) rfl (fun hb11 => ?y11) (fun a ha => ⟨ha, rfl⟩)
            case y11 =>
             refine sc_seq fun K16 hK16 => ?_
             refine sc_text [3, 3] ?_
             refine sr_pu rfl (fun _ => rd_eq (ev_t rfl) ev_c) ?_
             refine sr_pu rfl (fun _ => rd_assign (ev_t rfl)) ?_
             refine sr_sub [(2, _, _), (3, _, _), (4, _, _)] (sub_cons rfl (sub_cons rfl (sub_cons rfl (sub_nil _)))) ?_
             refine sr_nil (hK16 _ _ ?_)
             refine' sc_or [(2, _, _)] (sub_cons rfl (sub_cons rfl (sub_nil _))) rfl (fun hb12 => ?y12) (fun a ha => ⟨ha, rfl⟩)
             case y12 =>
              refine sc_seq fun K17 hK17 => ?_
              refine sc_text [3, 3] ?_
              refine sr_pu rfl (fun _ => rd_eq (ev_t rfl) ev_c) ?_
              refine sr_pu rfl (fun _ => rd_assign (ev_t rfl)) ?_
              refine sr_sub [(2, _, _), (3, _, _), (4, _, _)] (sub_cons rfl (sub_cons rfl (sub_cons rfl (sub_nil _)))) ?_
              refine sr_nil (hK17 _ _ ?_)
              refine' sc_or [(2, _, _)] (sub_cons rfl (sub_cons rfl (sub_nil _))) rfl (fun hb13 => ?y13) (fun a ha => ⟨ha, rfl⟩)
              case y13 =>
               refine sc_seq fun K18 hK18 => ?_
               refine sc_text [3, 3] ?_
               refine sr_pu rfl (fun _ => rd_eq (ev_t rfl) ev_c) ?_
               refine sr_pu rfl (fun _ => rd_assign (ev_t rfl)) ?_
               refine sr_sub [(2, _, _), (3, _, _), (4, _, _)] (sub_cons rfl (sub_cons rfl (sub_cons rfl (sub_nil _)))) ?_
               refine sr_nil (hK18 _ _ ?_)
               refine' sc_or [(2, _, _)] (sub_cons rfl (sub_cons rfl (sub_nil _))) rfl (fun hb14 => ?y14) (fun a ha => ⟨ha, rfl⟩)
               case y14 =>
                refine sc_text [3, 3] ?_
                refine sr_pu rfl (fun _ => rd_eq (ev_t rfl) ev_c) ?_
                refine sr_pu rfl (fun _ => rd_assign (ev_t rfl)) ?_
                refine sr_sub [(4, _, _), (2, _, _)] (sub_cons rfl (sub_cons rfl (sub_nil _))) ?_
                exact sr_nil (fun a ha => ⟨ha, rfl⟩)
  case n1 =>
   refine sc_cond (ev_t rfl) (fun h15 => ?_) (fun h15 => ?_)
   · (try simp only [bsimp] at h15)
     refine sc_seq fun K19 hK19 => ?_
     refine sc_text [3] ?_
     refine sr_pu rfl (fun _ => rd_assign ev_c) ?_
     refine sr_sub [(2, _, _)] (sub_cons rfl (sub_nil _)) ?_
     refine sr_nil (hK19 _ _ ?_)
     refine sc_ret (t_ret1 rfl rfl ?_)
     refine ⟨congrArg Value.bool ?_, g⟩
     simp only [expK, anyK]; exact (h15).symm
   (try simp only [bsimp] at h15)
   refine sc_skip (hK2 _ _ ?_)
   refine sc_sub [(2, _, _)] (sub_cons rfl (sub_nil _)) ?_
   refine sc_seq fun K20 hK20 => ?_
   refine sc_text [3] ?_
   refine sr_pu rfl (fun _ => rd_assign ev_c) ?_
   refine sr_nil (hK20 _ _ ?_)
   refine sc_ret (t_ret1 rfl rfl ?_)
   refine ⟨congrArg Value.bool ?_, g⟩
   simp only [expK, anyK]; exact (h15).symm
theorem statement_ok (k : Int) (w : World) : Ret PP fn_syntax_statement #[.int .i64 k] w fun v w' => v = .bool (stK k) ∧ G w w' := by
  have g := G.refl w
  refine ret_of_sc (m := 19) func_syntax_statement rfl rfl [(0, True, _)] (sub_cons rfl (sub_nil _)) ?_
  refine sc_seq fun K1 hK1 => ?_
  refine sc_text [3] ?_
  refine sr_pu rfl (fun _ => rd_assign ev_c) ?_
  refine sr_nil (hK1 _ _ ?_)
  refine sc_seq fun K2 hK2 => ?_
  refine sc_seq fun K3 hK3 => ?_
  refine sc_text [3] ?_
  refine sr_pu rfl (fun _ => rd_move (ev_t rfl)) ?_
  refine sr_sub [(2, _, _), (3, _, _)] (sub_cons rfl (sub_cons rfl (sub_nil _))) ?_
  refine sr_nil (hK3 _ _ ?_)
  refine sc_block ?_
  refine sc_seq fun K4 hK4 => ?_
  refine sc_seq fun K5 hK5 => ?_
  refine sc_text [3, 3] ?_
  refine sr_pu rfl (fun _ => rd_eq (ev_t rfl) ev_c) ?_
  refine sr_pu rfl (fun _ => rd_assign (ev_t rfl)) ?_
  refine sr_sub [(2, _, _), (3, _, _), (4, _, _)] (sub_cons rfl (sub_cons rfl (sub_cons rfl (sub_nil _)))) ?_
  refine sr_nil (hK5 _ _ ?_)
  refine' sc_or [(2, _, _)] (sub_cons rfl (sub_cons rfl (sub_nil _))) rfl (fun hb1 => ?y1) (hK4 _ _ ?n1)
  case y1 =>
   refine sc_seq fun K6 hK6 => ?_
   refine sc_text [3, 3] ?_
   refine sr_pu rfl (fun _ => rd_eq (ev_t rfl) ev_c) ?_
   refine sr_pu rfl (fun _ => rd_assign (ev_t rfl)) ?_
   refine sr_sub [(2, _, _), (3, _, _), (4, _, _)] (sub_cons rfl (sub_cons rfl (sub_cons rfl (sub_nil _)))) ?_
   refine sr_nil (hK6 _ _ ?_)
   refine' sc_or [(2, _, _)] (sub_cons rfl (sub_cons rfl (sub_nil _))) rfl (fun hb2 => ?y2) (fun a ha => ⟨ha, rfl⟩)
   case y2 =>
    refine sc_seq fun K7 hK7 => ?_
    refine sc_text [3, 3] ?_
    refine sr_pu rfl (fun _ => rd_eq (ev_t rfl) ev_c) ?_
    refine sr_pu rfl (fun _ => rd_assign (ev_t rfl)) ?_
    refine sr_sub [(2, _, _), (3, _, _), (4, _, _)] (sub_cons rfl (sub_cons rfl (sub_cons rfl (sub_nil _)))) ?_
    refine sr_nil (hK7 _ _ ?_)
    refine' sc_or [(2, _, _)] (sub_cons rfl (sub_cons rfl (sub_nil _))) rfl (fun hb3 => ?y3) (fun a ha => ⟨ha, rfl⟩)
    case y3 =>
     refine sc_seq fun K8 hK8 => ?_
     refine sc_text [3, 3] ?_
     refine sr_pu rfl (fun _ => rd_eq (ev_t rfl) ev_c) ?_
     refine sr_pu rfl (fun _ => rd_assign (ev_t rfl)) ?_
     refine sr_sub [(2, _, _), (3, _, _), (4, _, _)] (sub_cons rfl (sub_cons rfl (sub_cons rfl (sub_nil _)))) ?_
     refine sr_nil (hK8 _ _ ?_)
     refine' sc_or [(2, _, _)] (sub_cons rfl (sub_cons rfl (sub_nil _))) rfl (fun hb4 => ?y4) (fun a ha => ⟨ha, rfl⟩)
     case y4 =>
      refine sc_seq fun K9 hK9 => ?_
      refine sc_text [3, 3] ?_
      refine sr_pu rfl (fun _ => rd_eq (ev_t rfl) ev_c) ?_
      refine sr_pu rfl (fun _ => rd_assign (ev_t rfl)) ?_
      refine sr_sub [(2, _, _), (3, _, _), (4, _, _)] (sub_cons rfl (sub_cons rfl (sub_cons rfl (sub_nil _)))) ?_
      refine sr_nil (hK9 _ _ ?_)
      refine' sc_or [(2, _, _)] (sub_cons rfl (sub_cons rfl (sub_nil _))) rfl (fun hb5 => ?y5) (fun a ha => ⟨ha, rfl⟩)
      case y5 =>
       refine sc_seq fun K10 hK10 => ?_
       refine sc_text [3, 3] ?_
       refine sr_pu rfl (fun _ => rd_eq (ev_t rfl) ev_c) ?_
       refine sr_pu rfl (fun _ => rd_assign (ev_t rfl)) ?_
       refine sr_sub [(2, _, _), (3, _, _), (4, _, _)] (sub_cons rfl (sub_cons rfl (sub_cons rfl (sub_nil _)))) ?_
       refine sr_nil (hK10 _ _ ?_)
       refine' sc_or [(2, _, _)] (sub_cons rfl (sub_cons rfl (sub_nil _))) rfl (fun hb6 => ?y6) (fun a ha => ⟨ha, rfl⟩)
       case y6 =>
        refine sc_seq fun K11 hK11 => ?_
        refine sc_text [3, 3] ?_
        refine sr_pu rfl (fun _ => rd_eq (ev_t rfl) ev_c) ?_
        refine sr_pu rfl (fun _ => rd_assign (ev_t rfl)) ?_
        refine sr_sub [(2, _, _), (3, _, _), (4, _, _)] (sub_cons rfl (sub_cons rfl (sub_cons rfl (sub_nil _)))) ?_
        refine sr_nil (hK11 _ _ ?_)
        refine' sc_or [(2, _, _)] (sub_cons rfl (sub_cons rfl (sub_nil _))) rfl (fun hb7 => ?y7) (fun a ha => ⟨ha, rfl⟩)
        case y7 =>
         refine sc_seq fun K12 hK12 => ?_
         refine sc_text [3, 3] ?_
         refine sr_pu rfl (fun _ => rd_eq (ev_t rfl) ev_c) ?_
         refine sr_pu rfl (fun _ => rd_assign (ev_t rfl)) ?_
         refine sr_sub [(2, _, _), (3, _, _), (4, _, _)] (sub_cons rfl (sub_cons rfl (sub_cons rfl (sub_nil _)))) ?_
         refine sr_nil (hK12 _ _ ?_)
         refine' sc_or [(2, _, _)] (sub_cons rfl (sub_cons rfl (sub_nil _))) rfl (fun hb8 => ?y8) (fun a ha => ⟨ha, rfl⟩)
         case y8 =>
          refine sc_seq fun K13 hK13 => ?_
          refine sc_text [3, 3] ?_
          refine sr_pu rfl (fun _ => rd_eq (ev_t rfl) ev_c) ?_
          refine sr_pu rfl (fun _ => rd_assign (ev_t rfl)) ?_
          refine sr_sub [(2, _, _), (3, _, _), (4, _, _)] (sub_cons rfl (sub_cons rfl (sub_cons rfl (sub_nil _)))) ?_
          refine sr_nil (hK13 _ _ ?_)
          refine' sc_or [(2, _, _)] (sub_cons rfl (sub_cons rfl (sub_nil _))) rfl (fun hb9 => ?y9) (fun a ha => ⟨ha, rfl⟩)
          case y9 =>
           refine sc_seq fun K14 hK14 => ?_
           refine sc_text [3, 3] ?_
           refine sr_pu rfl (fun _ => rd_eq (ev_t rfl) ev_c) ?_
           refine sr_pu rfl (fun _ => rd_assign (ev_t rfl)) ?_
           refine sr_sub [(2, _, _), (3, _, _), (4, _, _)] (sub_cons rfl (sub_cons rfl (sub_cons rfl (sub_nil _)))) ?_
           refine sr_nil (hK14 _ _ ?_)
           refine' sc_or [(2, _, _)] (sub_cons rfl (sub_cons rfl (sub_nil _))) rfl (fun hb10 => ?y10) (fun a ha => ⟨ha, rfl⟩)
           case y10 =>
            refine sc_seq fun K15 hK15 => ?_
            refine sc_text [3, 3] ?_
            refine sr_pu rfl (fun _ => rd_eq (ev_t rfl) ev_c) ?_
            refine sr_pu rfl (fun _ => rd_assign (ev_t rfl)) ?_
            refine sr_sub [(2, _, _), (3, _, _), (4, _, _)] (sub_cons rfl (sub_cons rfl (sub_cons rfl (sub_nil _)))) ?_
            refine sr_nil (hK15 _ _ ?_)
            refine' sc_or [(2, _, _)] (sub_cons rfl (sub_cons rfl (sub_nil _))) rfl (fun hb11 => ?y11) (fun a ha => ⟨ha, rfl⟩)
            case y11 =>
             refine sc_seq fun K16 hK16 => ?_
             refine sc_text [3, 3] ?_
             refine sr_pu rfl (fun _ => rd_eq (ev_t rfl) ev_c) ?_
             refine sr_pu rfl (fun _ => rd_assign (ev_t rfl)) ?_
             refine sr_sub [(2, _, _), (3, _, _), (4, _, _)] (sub_cons rfl (sub_cons rfl (sub_cons rfl (sub_nil _)))) ?_
             refine sr_nil (hK16 _ _ ?_)
             refine' sc_or [(2, _, _)] (sub_cons rfl (sub_cons rfl (sub_nil _))) rfl (fun hb12 => ?y12) (fun a ha => ⟨ha, rfl⟩)
             case y12 =>
              refine sc_seq fun K17 hK17 => ?_
              refine sc_text [3, 3] ?_
              refine sr_pu rfl (fun _ => rd_eq (ev_t rfl) ev_c) ?_
              refine sr_pu rfl (fun _ => rd_assign (ev_t rfl)) ?_
              refine sr_sub [(2, _, _), (3, _, _), (4, _, _)] (sub_cons rfl (sub_cons rfl (sub_cons rfl (sub_nil _)))) ?_
              refine sr_nil (hK17 _ _ ?_)
              refine' sc_or [(2, _, _)] (sub_cons rfl (sub_cons rfl (sub_nil _))) rfl (fun hb13 => ?y13) (fun a ha => ⟨ha, rfl⟩)
              case y13 =>
               refine sc_text [3, 3] ?_
               refine sr_pu rfl (fun _ => rd_eq (ev_t rfl) ev_c) ?_
               refine sr_pu rfl (fun _ => rd_assign (ev_t rfl)) ?_
               refine sr_sub [(4, _, _), (2, _, _)] (sub_cons rfl (sub_cons rfl (sub_nil _))) ?_
               exact sr_nil (fun a ha => ⟨ha, rfl⟩)
  case n1 =>
   refine sc_cond (ev_t rfl) (fun h14 => ?_) (fun h14 => ?_)
   · (try simp only [bsimp] at h14)
     refine sc_seq fun K18 hK18 => ?_
     refine sc_text [3] ?_
     refine sr_pu rfl (fun _ => rd_assign ev_c) ?_
     refine sr_sub [(2, _, _)] (sub_cons rfl (sub_nil _)) ?_
     refine sr_nil (hK18 _ _ ?_)
     refine sc_ret (t_ret1 rfl rfl ?_)
     refine ⟨congrArg Value.bool ?_, g⟩
     simp only [stK, anyK]; exact (h14).symm
   (try simp only [bsimp] at h14)
   refine sc_skip (hK2 _ _ ?_)
   refine sc_sub [(2, _, _)] (sub_cons rfl (sub_nil _)) ?_
   refine sc_seq fun K19 hK19 => ?_
   refine sc_text [3] ?_
   refine sr_pu rfl (fun _ => rd_assign ev_c) ?_
   refine sr_nil (hK19 _ _ ?_)
   refine sc_ret (t_ret1 rfl rfl ?_)
   refine ⟨congrArg Value.bool ?_, g⟩
   simp only [stK, anyK]; exact (h14).symm
theorem among1_ok (l : List Int) (b : Nat) (p : Option Addr) (c : Nat) (k : Int) (w : World) (hB : Blk w b ty_sl_int [.slice p l.length c]) (hp : 0 < l.length → ∃ b o, p = some ⟨b, o, none⟩ ∧ RowAt w b o (l.map (Value.int .i64))) (hl : l.length ≤ 1000) :
    Ret PP fn_syntax_among_1 #[.int .i64 k, .pointer (some ⟨b, 0, none⟩)] w fun v w' => v = .bool (memK l k) ∧ G w w' := by
  have g := G.refl w
  refine ret_of_sc (m := 16) func_syntax_among_1 rfl rfl [(0, True, _), (1, True, _)] (sub_cons rfl (sub_cons rfl (sub_nil _))) ?_
  refine sc_seq fun K1 hK1 => ?_
  refine sc_text [3] ?_
  refine sr_pu rfl (fun _ => rd_assign ev_c) ?_
  refine sr_nil (hK1 _ _ ?_)
  refine sc_seq fun K2 hK2 => ?_
  refine sc_seq fun K3 hK3 => ?_
  refine sc_text [0, 3, 3] ?_
  refine sr_rd rfl (rd_load one_sl_int (ev_t rfl) (fun _ => (hB.grow g).at_ rfl)) ?_
  refine sr_pu rfl (fun _ => rd_len el_sl_int (ev_t rfl)) ?_
  refine sr_pu rfl (fun _ => rd_move ev_c) ?_
  refine sr_sub [(0, _, _), (3, _, _), (6, _, _), (7, _, _), (8, _, _)] (sub_cons rfl (sub_cons rfl (sub_cons rfl (sub_cons rfl (sub_cons rfl (sub_nil _)))))) ?_
  refine sr_nil (hK3 _ _ ?_)
  refine sc_block ?_
  refine sc_loop2 (fun (i : Nat) u1 => (i ≤ l.length ∧ ∀ j, (h : j < l.length) → j < i → l[j] ≠ k) ∧ G w u1) [(0, True, _), (6, True, _), (7, True, _)] (fun (i : Nat) => [(8, True, .int .i64 i)]) (fun (i : Nat) => l.length - i) (0) ⟨⟨Nat.zero_le _, fun j _ hj => absurd hj (Nat.not_lt_zero j)⟩, G.refl _⟩ (sub_cons rfl (sub_cons rfl (sub_cons rfl (sub_cons rfl (sub_nil _))))) ?_
  rintro i u1 ⟨hI1, gl1⟩
  have g := g.trans gl1
  refine sc_seq fun K4 hK4 => ?_
  refine sc_text [3] ?_
  refine sr_pu rfl (fun _ => rd_lt (ev_t rfl) (ev_t rfl)) ?_
  refine sr_nil (hK4 _ _ ?_)
  refine sc_sub [(0, _, _), (6, _, _), (7, _, _), (8, _, _), (9, _, _)] (sub_cons rfl (sub_cons rfl (sub_cons rfl (sub_cons rfl (sub_cons rfl (sub_nil _)))))) ?_
  refine sc_seq fun K5 hK5 => ?_
  refine sc_cond (ev_t rfl) (fun h1 => ?_) (fun h1 => ?_)
  · replace h1 : i < l.length := by simp only [decide_eq_true_eq] at h1; omega
    obtain ⟨b2, o2, rfl, hR⟩ := hp (by omega)
    have hv : (l.map (Value.int .i64))[i * 1]? = some (.int .i64 l[i]) := by simp [h1]
    refine sc_skip (hK5 _ _ ?_)
    refine sc_sub [(0, _, _), (6, _, _), (7, _, _), (8, _, _)] (sub_cons rfl (sub_cons rfl (sub_cons rfl (sub_cons rfl (sub_nil _))))) ?_
    refine sc_seq fun K6 hK6 => ?_
    refine sc_block ?_
    refine sc_seq fun K7 hK7 => ?_
    refine sc_text [3, 0, 3] ?_
    refine sr_pu rfl (fun _ => rd_idx el_sl_int (ev_t rfl) (ev_t rfl) (fun _ => by omega)) ?_
    refine sr_rd rfl (rd_load one_int (ev_t rfl) (fun _ => (hR.grow g) _ _ hv)) ?_
    refine sr_pu rfl (fun _ => rd_assign (ev_t rfl)) ?_
    refine sr_sub [(0, _, _), (5, _, _), (6, _, _), (7, _, _), (8, _, _)] (sub_cons rfl (sub_cons rfl (sub_cons rfl (sub_cons rfl (sub_cons rfl (sub_nil _)))))) ?_
    refine sr_nil (hK7 _ _ ?_)
    refine sc_seq fun K8 hK8 => ?_
    refine sc_text [3, 3, 3] ?_
    refine sr_pu rfl (fun _ => rd_move (ev_t rfl)) ?_
    refine sr_pu rfl (fun _ => rd_move (ev_t rfl)) ?_
    refine sr_pu rfl (fun _ => rd_eq (ev_t rfl) (ev_t rfl)) ?_
    refine sr_sub [(0, _, _), (6, _, _), (7, _, _), (8, _, _), (14, _, _)] (sub_cons rfl (sub_cons rfl (sub_cons rfl (sub_cons rfl (sub_cons rfl (sub_nil _)))))) ?_
    refine sr_nil (hK8 _ _ ?_)
    refine sc_cond (ev_t rfl) (fun h2 => ?_) (fun h2 => ?_)
    · simp only [decide_eq_true_eq] at h2
      refine sc_seq fun K9 hK9 => ?_
      refine sc_text [3] ?_
      refine sr_pu rfl (fun _ => rd_assign ev_c) ?_
      refine sr_sub [(0, _, _), (3, _, _), (6, _, _), (7, _, _), (8, _, _)] (sub_cons rfl (sub_cons rfl (sub_cons rfl (sub_cons rfl (sub_cons rfl (sub_nil _)))))) ?_
      refine sr_nil (hK9 _ _ ?_)
      refine sc_ret (t_ret1 rfl rfl ?_)
      refine ⟨congrArg Value.bool ?_, g⟩
      rw [memK, eq_comm, decide_eq_true_eq, ← h2]; exact List.getElem_mem h1
    simp only [decide_eq_false_iff_not] at h2
    refine sc_skip (hK6 _ _ ?_)
    refine sc_sub [(0, _, _), (6, _, _), (7, _, _), (8, _, _)] (sub_cons rfl (sub_cons rfl (sub_cons rfl (sub_cons rfl (sub_nil _))))) ?_
    refine sc_text [3, 3] ?_
    refine sr_pu rfl (fun _ => rd_add (ev_t rfl) ev_c (fun _ => by omega)) ?_
    refine sr_pu rfl (fun _ => rd_move (ev_t rfl)) ?_
    refine sr_sub [(8, _, _), (0, _, _), (6, _, _), (7, _, _)] (sub_cons rfl (sub_cons rfl (sub_cons rfl (sub_cons rfl (sub_nil _))))) ?_
    refine sr_nil (fun a ha => ?_)
    refine ⟨i + 1, ha, ⟨⟨h1, fun j h hj => ?_⟩, gl1⟩, by omega⟩
    by_cases e : j = i
    · subst e; exact h2
    · exact hI1.2 j h (by omega)
  (try simp only [bsimp] at h1)
  refine sc_exit rfl (hK2 _ _ ?_)
  refine sc_sub [] (sub_nil _) ?_
  refine sc_seq fun K10 hK10 => ?_
  refine sc_text [3] ?_
  refine sr_pu rfl (fun _ => rd_assign ev_c) ?_
  refine sr_nil (hK10 _ _ ?_)
  refine sc_ret (t_ret1 rfl rfl ?_)
  refine ⟨congrArg Value.bool ?_, g⟩
  rw [memK, eq_comm, decide_eq_false_iff_not]
  intro hm
  obtain ⟨j, hj, e⟩ := List.getElem_of_mem hm
  simp only [decide_eq_false_iff_not] at h1
  exact hI1.2 j hj (by omega) e
theorem among_ok (l : List Int) (b o c : Nat) (w : World) (hR : RowAt w b o (l.map (Value.int .i64))) (hl : l.length ≤ 1000) : Ret PP fn_syntax_among #[.slice (some ⟨b, o, none⟩) l.length c] w fun v w' => FnV PP (memK l) v w' ∧ G w w' := by
  have g := G.refl w
  refine ret_of_sc (m := 4) func_syntax_among rfl rfl [(0, True, _)] (sub_cons rfl (sub_nil _)) ?_
  refine sc_seq fun K1 hK1 => ?_
  refine sc_text [1, 3] ?_
  refine sr_box rfl (ev_t rfl) rfl ?_
  intro b1 w1 N1
  have l1 := N1.ge g
  have g := g.trans (N1.g)
  have B1 := N1.blk
  refine sr_pu rfl (fun _ => rd_assign ev_c) ?_
  refine sr_sub [(1, _, _), (2, _, _)] (sub_cons rfl (sub_cons rfl (sub_nil _))) ?_
  refine sr_nil (hK1 _ _ ?_)
  refine sc_seq fun K2 hK2 => ?_
  refine sc_text [3, 3] ?_
  refine sr_pu rfl (fun _ => rd_func (args_nil) (args_cons (ev_t rfl) (args_nil))) ?_
  refine sr_pu rfl (fun _ => rd_assign (ev_t rfl)) ?_
  refine sr_sub [(2, _, _)] (sub_cons rfl (sub_nil _)) ?_
  refine sr_nil (hK2 _ _ ?_)
  refine sc_ret (t_ret1 rfl rfl ?_)
  refine ⟨⟨_, _, _, rfl, go_syntax_among_1, fun k w' g' => ?_⟩, g⟩
  exact among1_ok l _ _ _ k w' (B1.grow g') (fun _ => ⟨b, o, rfl, (hR.grow g).grow g'⟩) hl
theorem either1_ok (q r : Int → Bool) (f h : Value) (b1 b2 : Nat) (k : Int) (w : World) (h1 : Blk w b1 ty_func_int_bool [f]) (h2 : Blk w b2 ty_func_int_bool [h]) (hF : FnV PP q f w) (hH : FnV PP r h w) :
    Ret PP fn_syntax_either_1 #[.int .i64 k, .pointer (some ⟨b1, 0, none⟩), .pointer (some ⟨b2, 0, none⟩)] w fun v w' => v = .bool (q k || r k) ∧ G w w' := by
  have g := G.refl w
  obtain ⟨f0, fs0, cs0, rfl, hgo0, hf0⟩ := hF
  obtain ⟨f1, fs1, cs1, rfl, hgo1, hf1⟩ := hH
  refine ret_of_sc (m := 13) func_syntax_either_1 rfl rfl [(0, True, _), (1, True, _), (2, True, _)] (sub_cons rfl (sub_cons rfl (sub_cons rfl (sub_nil _)))) ?_
  refine sc_seq fun K1 hK1 => ?_
  refine sc_text [3] ?_
  refine sr_pu rfl (fun _ => rd_assign ev_c) ?_
  refine sr_nil (hK1 _ _ ?_)
  refine sc_seq fun K2 hK2 => ?_
  refine sc_text [0, 3, 1, 3, 0, 3, 1, 3, 3] ?_
  refine sr_rd rfl (rd_load one_func_int_bool (ev_t rfl) (fun _ => (h1.grow g).at_ rfl)) ?_
  refine sr_pu rfl (fun _ => rd_move (ev_t rfl)) ?_
  refine sr_pure rfl (rc_call hgo0 (ev_t rfl) (args_cons (ev_t rfl) (args_nil)) rfl) (hf0 k _ g) (fun w7 g7 => ?_)
  have g := g.trans (g7)
  refine sr_pu rfl (fun _ => rd_move (ev_t rfl)) ?_
  refine sr_rdg rfl rfl rfl (rd_load one_func_int_bool (ev_t rfl) (fun _ => (h2.grow g).at_ rfl)) ?_
  refine sr_pug rfl rfl rfl (fun _ => rd_move (ev_t rfl)) ?_
  refine sr_pureg rfl rfl rfl (fun _ => (rc_call hgo1 (ev_u rfl id) (args_cons (ev_u rfl id) (args_nil)) rfl)) (fun hc => hf1 k _ g) (fun w11 g11 => ?_)
  have g := g.trans (g11)
  refine sr_pu rfl (fun _ => rd_pick_or (ev_t rfl) (ev_u rfl id)) ?_
  refine sr_pu rfl (fun _ => rd_assign (ev_t rfl)) ?_
  refine sr_sub [(4, _, _)] (sub_cons rfl (sub_nil _)) ?_
  refine sr_nil (hK2 _ _ ?_)
  refine sc_ret (t_ret1 rfl rfl ?_)
  exact ⟨rfl, g⟩
theorem either_ok (q : Int → Bool) (l : List Int) (f : Value) (b o c : Nat) (w : World) (hF : FnV PP q f w) (hR : RowAt w b o (l.map (Value.int .i64))) (hl : l.length ≤ 1000) : Ret PP fn_syntax_either #[f, .slice (some ⟨b, o, none⟩) l.length c] w fun v w' => FnV PP (fun k => q k || memK l k) v w' ∧ G w w' := by
  have g := G.refl w
  have hF0 := hF
  obtain ⟨f0, fs0, cs0, rfl, hgo0, hf0⟩ := hF
  refine ret_of_sc (m := 9) func_syntax_either rfl rfl [(0, True, _), (1, True, _)] (sub_cons rfl (sub_cons rfl (sub_nil _))) ?_
  refine sc_seq fun K1 hK1 => ?_
  refine sc_text [1, 3] ?_
  refine sr_box rfl (ev_t rfl) rfl ?_
  intro b2 w2 N2
  have l2 := N2.ge g
  have g := g.trans (N2.g)
  have B2 := N2.blk
  refine sr_pu rfl (fun _ => rd_assign ev_c) ?_
  refine sr_sub [(1, _, _), (2, _, _), (4, _, _)] (sub_cons rfl (sub_cons rfl (sub_cons rfl (sub_nil _)))) ?_
  refine sr_nil (hK1 _ _ ?_)
  refine sc_seq fun K2 hK2 => ?_
  refine sc_text [3, 1, 1, 2] ?_
  refine sr_pu rfl (fun _ => rd_move (ev_t rfl)) ?_
  refine sr_call rfl (rc_call go_syntax_among ev_f (args_cons (ev_t rfl) (args_nil)) rfl) (among_ok l _ _ _ _ (hR.grow g) hl) ?_
  rintro v7 w7 ⟨hA, g7⟩
  refine ⟨fun _ => g7, ?_⟩
  have g := g.trans g7
  have hA0 := hA
  obtain ⟨f1, fs1, cs1, rfl, hgo1, hf1⟩ := hA
  replace B2 := B2.grow (g7)
  have gm := G.refl w7
  refine sr_alloc rfl ze_func_int_bool rfl ?_
  intro b5 w5 N5
  have x5_2 := N5.ne B2
  have l5 := N5.ge g
  try have l5_gm := N5.ge gm
  have g := g.trans (N5.g)
  try have gm := gm.trans (N5.g)
  replace B2 := B2.grow (N5.g)
  have B5 := N5.blk
  refine sr_store_all rfl sz_func_int_bool (ev_t rfl) (ev_t rfl) rfl rfl B5 rfl rfl ?_
  intro wS1 hgS1 hzS1
  clear B5
  intro B5
  replace B2 := B2.keep hgS1 (by intro h; injection h with h; first | exact x5_2 h.symm | exact x2_5 h | omega)
  have g := g_only g hgS1 (by intro k hk; injection hk with hk; omega)
  first | replace gm := g_only gm hgS1 (by intro k hk; injection hk with hk; omega) | clear gm | skip
  refine sr_sub [(2, _, _), (4, _, _), (5, _, _)] (sub_cons rfl (sub_cons rfl (sub_cons rfl (sub_nil _)))) ?_
  refine sr_nil (hK2 _ _ ?_)
  refine sc_seq fun K3 hK3 => ?_
  refine sc_text [3, 3] ?_
  refine sr_pu rfl (fun _ => rd_func (args_nil) (args_cons (ev_t rfl) (args_cons (ev_t rfl) (args_nil)))) ?_
  refine sr_pu rfl (fun _ => rd_assign (ev_t rfl)) ?_
  refine sr_sub [(4, _, _)] (sub_cons rfl (sub_nil _)) ?_
  refine sr_nil (hK3 _ _ ?_)
  refine sc_ret (t_ret1 rfl rfl ?_)
  refine ⟨⟨_, _, _, rfl, go_syntax_either_1, fun k w' g' => ?_⟩, g⟩
  exact either1_ok q (memK l) _ _ _ _ k w' (B2.grow g') (B5.grow g') ((hF0.grow g).grow g') ((hA0.grow gm).grow g')
end Go.Rk
namespace Go.Rk
open Go Go.RowKit
def typeNames : List (List UInt8) := [[105, 110, 116], [98, 111, 111, 108], [91, 93, 105, 110, 116], [99, 104, 97, 110], [102, 117, 110, 99], [109, 117, 116, 101, 120], [114, 119, 109, 117, 116, 101, 120], [103, 114, 111, 117, 112], [111, 110, 99, 101], [97, 116, 111, 109, 105, 99]]
def typeNameB (s : List UInt8) : Bool := anyS typeNames s
theorem typename_ok (s : List UInt8) (w : World) : Ret PP fn_r03_typeName #[Str s] w fun v w' => v = .bool (typeNameB s) ∧ G w w' := by
  have g := G.refl w
  refine ret_of_sc (m := 15) func_r03_typeName rfl rfl [(0, True, _)] (sub_cons rfl (sub_nil _)) ?_
  refine sc_seq fun K1 hK1 => ?_
  refine sc_text [3] ?_
  refine sr_pu rfl (fun _ => rd_assign ev_c) ?_
  refine sr_nil (hK1 _ _ ?_)
  refine sc_seq fun K2 hK2 => ?_
  refine sc_seq fun K3 hK3 => ?_
  refine sc_text [3] ?_
  refine sr_pu rfl (fun _ => rd_move (ev_t rfl)) ?_
  refine sr_sub [(2, _, _), (3, _, _)] (sub_cons rfl (sub_cons rfl (sub_nil _))) ?_
  refine sr_nil (hK3 _ _ ?_)
  refine sc_block ?_
  refine sc_seq fun K4 hK4 => ?_
  refine sc_seq fun K5 hK5 => ?_
  refine sc_text [3, 3] ?_
  refine sr_pu rfl (fun _ => rd_seq (ev_t rfl) ev_c) ?_
  refine sr_pu rfl (fun _ => rd_assign (ev_t rfl)) ?_
  refine sr_sub [(2, _, _), (3, _, _), (4, _, _)] (sub_cons rfl (sub_cons rfl (sub_cons rfl (sub_nil _)))) ?_
  refine sr_nil (hK5 _ _ ?_)
  refine' sc_or [(2, _, _)] (sub_cons rfl (sub_cons rfl (sub_nil _))) rfl (fun hb1 => ?y1) (hK4 _ _ ?n1)
  case y1 =>
   refine sc_seq fun K6 hK6 => ?_
   refine sc_text [3, 3] ?_
   refine sr_pu rfl (fun _ => rd_seq (ev_t rfl) ev_c) ?_
   refine sr_pu rfl (fun _ => rd_assign (ev_t rfl)) ?_
   refine sr_sub [(2, _, _), (3, _, _), (4, _, _)] (sub_cons rfl (sub_cons rfl (sub_cons rfl (sub_nil _)))) ?_
   refine sr_nil (hK6 _ _ ?_)
   refine' sc_or [(2, _, _)] (sub_cons rfl (sub_cons rfl (sub_nil _))) rfl (fun hb2 => ?y2) (fun a ha => ⟨ha, rfl⟩)
   case y2 =>
    refine sc_seq fun K7 hK7 => ?_
    refine sc_text [3, 3] ?_
    refine sr_pu rfl (fun _ => rd_seq (ev_t rfl) ev_c) ?_
    refine sr_pu rfl (fun _ => rd_assign (ev_t rfl)) ?_
    refine sr_sub [(2, _, _), (3, _, _), (4, _, _)] (sub_cons rfl (sub_cons rfl (sub_cons rfl (sub_nil _)))) ?_
    refine sr_nil (hK7 _ _ ?_)
    refine' sc_or [(2, _, _)] (sub_cons rfl (sub_cons rfl (sub_nil _))) rfl (fun hb3 => ?y3) (fun a ha => ⟨ha, rfl⟩)
    case y3 =>
     refine sc_seq fun K8 hK8 => ?_
     refine sc_text [3, 3] ?_
     refine sr_pu rfl (fun _ => rd_seq (ev_t rfl) ev_c) ?_
     refine sr_pu rfl (fun _ => rd_assign (ev_t rfl)) ?_
     refine sr_sub [(2, _, _), (3, _, _), (4, _, _)] (sub_cons rfl (sub_cons rfl (sub_cons rfl (sub_nil _)))) ?_
     refine sr_nil (hK8 _ _ ?_)
     refine' sc_or [(2, _, _)] (sub_cons rfl (sub_cons rfl (sub_nil _))) rfl (fun hb4 => ?y4) (fun a ha => ⟨ha, rfl⟩)
     case y4 =>
      refine sc_seq fun K9 hK9 => ?_
      refine sc_text [3, 3] ?_
      refine sr_pu rfl (fun _ => rd_seq (ev_t rfl) ev_c) ?_
      refine sr_pu rfl (fun _ => rd_assign (ev_t rfl)) ?_
      refine sr_sub [(2, _, _), (3, _, _), (4, _, _)] (sub_cons rfl (sub_cons rfl (sub_cons rfl (sub_nil _)))) ?_
      refine sr_nil (hK9 _ _ ?_)
      refine' sc_or [(2, _, _)] (sub_cons rfl (sub_cons rfl (sub_nil _))) rfl (fun hb5 => ?y5) (fun a ha => ⟨ha, rfl⟩)
      case y5 =>
       refine sc_seq fun K10 hK10 => ?_
       refine sc_text [3, 3] ?_
       refine sr_pu rfl (fun _ => rd_seq (ev_t rfl) ev_c) ?_
       refine sr_pu rfl (fun _ => rd_assign (ev_t rfl)) ?_
       refine sr_sub [(2, _, _), (3, _, _), (4, _, _)] (sub_cons rfl (sub_cons rfl (sub_cons rfl (sub_nil _)))) ?_
       refine sr_nil (hK10 _ _ ?_)
       refine' sc_or [(2, _, _)] (sub_cons rfl (sub_cons rfl (sub_nil _))) rfl (fun hb6 => ?y6) (fun a ha => ⟨ha, rfl⟩)
       case y6 =>
        refine sc_seq fun K11 hK11 => ?_
        refine sc_text [3, 3] ?_
        refine sr_pu rfl (fun _ => rd_seq (ev_t rfl) ev_c) ?_
        refine sr_pu rfl (fun _ => rd_assign (ev_t rfl)) ?_
        refine sr_sub [(2, _, _), (3, _, _), (4, _, _)] (sub_cons rfl (sub_cons rfl (sub_cons rfl (sub_nil _)))) ?_
        refine sr_nil (hK11 _ _ ?_)
        refine' sc_or [(2, _, _)] (sub_cons rfl (sub_cons rfl (sub_nil _))) rfl (fun hb7 => ?y7) (fun a ha => ⟨ha, rfl⟩)
        case y7 =>
         refine sc_seq fun K12 hK12 => ?_
         refine sc_text [3, 3] ?_
         refine sr_pu rfl (fun _ => rd_seq (ev_t rfl) ev_c) ?_
         refine sr_pu rfl (fun _ => rd_assign (ev_t rfl)) ?_
         refine sr_sub [(2, _, _), (3, _, _), (4, _, _)] (sub_cons rfl (sub_cons rfl (sub_cons rfl (sub_nil _)))) ?_
         refine sr_nil (hK12 _ _ ?_)
         refine' sc_or [(2, _, _)] (sub_cons rfl (sub_cons rfl (sub_nil _))) rfl (fun hb8 => ?y8) (fun a ha => ⟨ha, rfl⟩)
         case y8 =>
          refine sc_seq fun K13 hK13 => ?_
          refine sc_text [3, 3] ?_
          refine sr_pu rfl (fun _ => rd_seq (ev_t rfl) ev_c) ?_
          refine sr_pu rfl (fun _ => rd_assign (ev_t rfl)) ?_
          refine sr_sub [(2, _, _), (3, _, _), (4, _, _)] (sub_cons rfl (sub_cons rfl (sub_cons rfl (sub_nil _)))) ?_
          refine sr_nil (hK13 _ _ ?_)
          refine' sc_or [(2, _, _)] (sub_cons rfl (sub_cons rfl (sub_nil _))) rfl (fun hb9 => ?y9) (fun a ha => ⟨ha, rfl⟩)
          case y9 =>
           refine sc_text [3, 3] ?_
           refine sr_pu rfl (fun _ => rd_seq (ev_t rfl) ev_c) ?_
           refine sr_pu rfl (fun _ => rd_assign (ev_t rfl)) ?_
           refine sr_sub [(4, _, _), (2, _, _)] (sub_cons rfl (sub_cons rfl (sub_nil _))) ?_
           exact sr_nil (fun a ha => ⟨ha, rfl⟩)
  case n1 =>
   refine sc_cond (ev_t rfl) (fun h10 => ?_) (fun h10 => ?_)
   · (try simp only [bsimp] at h10)
     refine sc_seq fun K14 hK14 => ?_
     refine sc_text [3] ?_
     refine sr_pu rfl (fun _ => rd_assign ev_c) ?_
     refine sr_sub [(2, _, _)] (sub_cons rfl (sub_nil _)) ?_
     refine sr_nil (hK14 _ _ ?_)
     refine sc_ret (t_ret1 rfl rfl ?_)
     refine ⟨congrArg Value.bool ?_, g⟩
     simp only [typeNameB, anyS, typeNames]; exact (h10).symm
   (try simp only [bsimp] at h10)
   refine sc_skip (hK2 _ _ ?_)
   refine sc_sub [(2, _, _)] (sub_cons rfl (sub_nil _)) ?_
   refine sc_seq fun K15 hK15 => ?_
   refine sc_text [3] ?_
   refine sr_pu rfl (fun _ => rd_assign ev_c) ?_
   refine sr_nil (hK15 _ _ ?_)
   refine sc_ret (t_ret1 rfl rfl ?_)
   refine ⟨congrArg Value.bool ?_, g⟩
   simp only [typeNameB, anyS, typeNames]; exact (h10).symm
def leafB (t : Nd) : Bool := decide ((t.kids.length : Int) = 0)
def isTypeB (t : Nd) : Bool := bif decide (t.kind = 8) then nameB t.text && leafB t else bif decide (t.kind = 7) then typeNameB t.text && leafB t else false
theorem istype_ok (t : Nd) (p : Option Addr) (c : Nat) (w : World) : Ret PP fn_r03_IsType #[ndV t (.slice p t.kids.length c)] w fun v w' => v = .bool (isTypeB t) ∧ G w w' := by
  have g := G.refl w
  refine ret_of_sc (m := 27) func_r03_IsType rfl rfl [(0, True, _)] (sub_cons rfl (sub_nil _)) ?_
  refine sc_seq fun K1 hK1 => ?_
  refine sc_text [1, 3] ?_
  refine sr_box rfl (ev_t rfl) rfl ?_
  intro b1 w1 N1
  have l1 := N1.ge g
  have g := g.trans (N1.g)
  have B1 := N1.blk
  refine sr_pu rfl (fun _ => rd_assign ev_c) ?_
  refine sr_sub [(1, _, _), (2, _, _)] (sub_cons rfl (sub_cons rfl (sub_nil _))) ?_
  refine sr_nil (hK1 _ _ ?_)
  refine sc_seq fun K2 hK2 => ?_
  refine sc_seq fun K3 hK3 => ?_
  refine sc_text [3, 0] ?_
  refine sr_pu rfl (fun _ => rd_field fo_api_Node_0 (ev_t rfl)) ?_
  refine sr_rd rfl (rd_load one_int (ev_t rfl) (fun _ => B1.at_ rfl)) ?_
  refine sr_sub [(1, _, _), (2, _, _), (4, _, _)] (sub_cons rfl (sub_cons rfl (sub_cons rfl (sub_nil _)))) ?_
  refine sr_nil (hK3 _ _ ?_)
  refine sc_block ?_
  refine sc_seq fun K4 hK4 => ?_
  refine sc_text [3, 3] ?_
  refine sr_pu rfl (fun _ => rd_eq (ev_t rfl) ev_c) ?_
  refine sr_pu rfl (fun _ => rd_assign (ev_t rfl)) ?_
  refine sr_sub [(1, _, _), (2, _, _), (4, _, _), (5, _, _)] (sub_cons rfl (sub_cons rfl (sub_cons rfl (sub_cons rfl (sub_nil _))))) ?_
  refine sr_nil (hK4 _ _ ?_)
  refine sc_cond (ev_t rfl) (fun h1 => ?_) (fun h1 => ?_)
  · (try simp only [bsimp] at h1)
    refine sc_seq fun K5 hK5 => ?_
    refine sc_text [3, 0, 1, 3, 3, 0, 3, 3, 3, 3] ?_
    refine sr_pu rfl (fun _ => rd_field fo_api_Node_1 (ev_t rfl)) ?_
    refine sr_rd rfl (rd_load one_string (ev_t rfl) (fun _ => B1.at_ rfl)) ?_
    refine sr_pure rfl (rc_call go_r02_Name ev_f (args_cons (ev_t rfl) (args_nil)) rfl) (rname_ok _ _) (fun w9 g9 => ?_)
    have g := g.trans (g9)
    replace B1 := B1.grow (g9)
    refine sr_pu rfl (fun _ => rd_move (ev_t rfl)) ?_
    refine sr_pug rfl rfl rfl (fun _ => rd_field fo_api_Node_4 (ev_t rfl)) ?_
    refine sr_rdg rfl rfl rfl (rd_load one_sl_api_Node (ev_u rfl id) (fun _ => B1.at_ rfl)) ?_
    refine sr_pug rfl rfl rfl (fun _ => rd_len el_sl_api_Node (ev_u rfl id)) ?_
    refine sr_pug rfl rfl rfl (fun _ => rd_eq (ev_u rfl id) ev_c) ?_
    refine sr_pu rfl (fun _ => rd_pick_and (ev_t rfl) (ev_u rfl id)) ?_
    refine sr_pu rfl (fun _ => rd_assign (ev_t rfl)) ?_
    refine sr_sub [(2, _, _)] (sub_cons rfl (sub_nil _)) ?_
    refine sr_nil (hK5 _ _ ?_)
    refine sc_ret (t_ret1 rfl rfl ?_)
    refine ⟨congrArg Value.bool ?_, g⟩
    unfold isTypeB; simp only [h1, cond_true, cond_false] <;> rfl
  (try simp only [bsimp] at h1)
  refine sc_seq fun K6 hK6 => ?_
  refine sc_text [3, 3] ?_
  refine sr_pu rfl (fun _ => rd_eq (ev_t rfl) ev_c) ?_
  refine sr_pu rfl (fun _ => rd_assign (ev_t rfl)) ?_
  refine sr_sub [(1, _, _), (2, _, _), (16, _, _)] (sub_cons rfl (sub_cons rfl (sub_cons rfl (sub_nil _)))) ?_
  refine sr_nil (hK6 _ _ ?_)
  refine sc_cond (ev_t rfl) (fun h2 => ?_) (fun h2 => ?_)
  · (try simp only [bsimp] at h2)
    refine sc_seq fun K7 hK7 => ?_
    refine sc_text [3, 0, 1, 3, 3, 0, 3, 3, 3, 3] ?_
    refine sr_pu rfl (fun _ => rd_field fo_api_Node_1 (ev_t rfl)) ?_
    refine sr_rd rfl (rd_load one_string (ev_t rfl) (fun _ => B1.at_ rfl)) ?_
    refine sr_pure rfl (rc_call go_r03_typeName ev_f (args_cons (ev_t rfl) (args_nil)) rfl) (typename_ok _ _) (fun w20 g20 => ?_)
    have g := g.trans (g20)
    replace B1 := B1.grow (g20)
    refine sr_pu rfl (fun _ => rd_move (ev_t rfl)) ?_
    refine sr_pug rfl rfl rfl (fun _ => rd_field fo_api_Node_4 (ev_t rfl)) ?_
    refine sr_rdg rfl rfl rfl (rd_load one_sl_api_Node (ev_u rfl id) (fun _ => B1.at_ rfl)) ?_
    refine sr_pug rfl rfl rfl (fun _ => rd_len el_sl_api_Node (ev_u rfl id)) ?_
    refine sr_pug rfl rfl rfl (fun _ => rd_eq (ev_u rfl id) ev_c) ?_
    refine sr_pu rfl (fun _ => rd_pick_and (ev_t rfl) (ev_u rfl id)) ?_
    refine sr_pu rfl (fun _ => rd_assign (ev_t rfl)) ?_
    refine sr_sub [(2, _, _)] (sub_cons rfl (sub_nil _)) ?_
    refine sr_nil (hK7 _ _ ?_)
    refine sc_ret (t_ret1 rfl rfl ?_)
    refine ⟨congrArg Value.bool ?_, g⟩
    unfold isTypeB; simp only [h1, h2, cond_true, cond_false] <;> rfl
  (try simp only [bsimp] at h2)
  refine sc_skip (hK2 _ _ ?_)
  refine sc_sub [(2, _, _)] (sub_cons rfl (sub_nil _)) ?_
  refine sc_seq fun K8 hK8 => ?_
  refine sc_text [3] ?_
  refine sr_pu rfl (fun _ => rd_assign ev_c) ?_
  refine sr_nil (hK8 _ _ ?_)
  refine sc_ret (t_ret1 rfl rfl ?_)
  refine ⟨congrArg Value.bool ?_, g⟩
  unfold isTypeB; simp only [h1, h2, cond_true, cond_false] <;> rfl
def binOps : List (List UInt8) := [[124, 124], [38, 38], [61, 61], [33, 61], [60], [60, 61], [62], [62, 61], [43], [45], [42], [47], [37]]
theorem binop_ok (s : List UInt8) (w : World) : Ret PP fn_r03_BinaryOp #[Str s] w fun v w' => v = .bool (anyS binOps s) ∧ G w w' := by
  have g := G.refl w
  refine ret_of_sc (m := 18) func_r03_BinaryOp rfl rfl [(0, True, _)] (sub_cons rfl (sub_nil _)) ?_
  refine sc_seq fun K1 hK1 => ?_
  refine sc_text [3] ?_
  refine sr_pu rfl (fun _ => rd_assign ev_c) ?_
  refine sr_nil (hK1 _ _ ?_)
  refine sc_seq fun K2 hK2 => ?_
  refine sc_seq fun K3 hK3 => ?_
  refine sc_text [3] ?_
  refine sr_pu rfl (fun _ => rd_move (ev_t rfl)) ?_
  refine sr_sub [(2, _, _), (3, _, _)] (sub_cons rfl (sub_cons rfl (sub_nil _))) ?_
  refine sr_nil (hK3 _ _ ?_)
  refine sc_block ?_
  refine sc_seq fun K4 hK4 => ?_
  refine sc_seq fun K5 hK5 => ?_
  refine sc_text [3, 3] ?_
  refine sr_pu rfl (fun _ => rd_seq (ev_t rfl) ev_c) ?_
  refine sr_pu rfl (fun _ => rd_assign (ev_t rfl)) ?_
  refine sr_sub [(2, _, _), (3, _, _), (4, _, _)] (sub_cons rfl (sub_cons rfl (sub_cons rfl (sub_nil _)))) ?_
  refine sr_nil (hK5 _ _ ?_)
  refine' sc_or [(2, _, _)] (sub_cons rfl (sub_cons rfl (sub_nil _))) rfl (fun hb1 => ?y1) (hK4 _ _ ?n1)
  case y1 =>
   refine sc_seq fun K6 hK6 => ?_
   refine sc_text [3, 3] ?_
   refine sr_pu rfl (fun _ => rd_seq (ev_t rfl) ev_c) ?_
   refine sr_pu rfl (fun _ => rd_assign (ev_t rfl)) ?_
   refine sr_sub [(2, _, _), (3, _, _), (4, _, _)] (sub_cons rfl (sub_cons rfl (sub_cons rfl (sub_nil _)))) ?_
   refine sr_nil (hK6 _ _ ?_)
   refine' sc_or [(2, _, _)] (sub_cons rfl (sub_cons rfl (sub_nil _))) rfl (fun hb2 => ?y2) (fun a ha => ⟨ha, rfl⟩)
   case y2 =>
    refine sc_seq fun K7 hK7 => ?_
    refine sc_text [3, 3] ?_
    refine sr_pu rfl (fun _ => rd_seq (ev_t rfl) ev_c) ?_
    refine sr_pu rfl (fun _ => rd_assign (ev_t rfl)) ?_
    refine sr_sub [(2, _, _), (3, _, _), (4, _, _)] (sub_cons rfl (sub_cons rfl (sub_cons rfl (sub_nil _)))) ?_
    refine sr_nil (hK7 _ _ ?_)
    refine' sc_or [(2, _, _)] (sub_cons rfl (sub_cons rfl (sub_nil _))) rfl (fun hb3 => ?y3) (fun a ha => ⟨ha, rfl⟩)
    case y3 =>
     refine sc_seq fun K8 hK8 => ?_
     refine sc_text [3, 3] ?_
     refine sr_pu rfl (fun _ => rd_seq (ev_t rfl) ev_c) ?_
     refine sr_pu rfl (fun _ => rd_assign (ev_t rfl)) ?_
     refine sr_sub [(2, _, _), (3, _, _), (4, _, _)] (sub_cons rfl (sub_cons rfl (sub_cons rfl (sub_nil _)))) ?_
     refine sr_nil (hK8 _ _ ?_)
     refine' sc_or [(2, _, _)] (sub_cons rfl (sub_cons rfl (sub_nil _))) rfl (fun hb4 => ?y4) (fun a ha => ⟨ha, rfl⟩)
     case y4 =>
      refine sc_seq fun K9 hK9 => ?_
      refine sc_text [3, 3] ?_
      refine sr_pu rfl (fun _ => rd_seq (ev_t rfl) ev_c) ?_
      refine sr_pu rfl (fun _ => rd_assign (ev_t rfl)) ?_
      refine sr_sub [(2, _, _), (3, _, _), (4, _, _)] (sub_cons rfl (sub_cons rfl (sub_cons rfl (sub_nil _)))) ?_
      refine sr_nil (hK9 _ _ ?_)
      refine' sc_or [(2, _, _)] (sub_cons rfl (sub_cons rfl (sub_nil _))) rfl (fun hb5 => ?y5) (fun a ha => ⟨ha, rfl⟩)
      case y5 =>
       refine sc_seq fun K10 hK10 => ?_
       refine sc_text [3, 3] ?_
       refine sr_pu rfl (fun _ => rd_seq (ev_t rfl) ev_c) ?_
       refine sr_pu rfl (fun _ => rd_assign (ev_t rfl)) ?_
       refine sr_sub [(2, _, _), (3, _, _), (4, _, _)] (sub_cons rfl (sub_cons rfl (sub_cons rfl (sub_nil _)))) ?_
       refine sr_nil (hK10 _ _ ?_)
       refine' sc_or [(2, _, _)] (sub_cons rfl (sub_cons rfl (sub_nil _))) rfl (fun hb6 => ?y6) (fun a ha => ⟨ha, rfl⟩)
       case y6 =>
        refine sc_seq fun K11 hK11 => ?_
        refine sc_text [3, 3] ?_
        refine sr_pu rfl (fun _ => rd_seq (ev_t rfl) ev_c) ?_
        refine sr_pu rfl (fun _ => rd_assign (ev_t rfl)) ?_
        refine sr_sub [(2, _, _), (3, _, _), (4, _, _)] (sub_cons rfl (sub_cons rfl (sub_cons rfl (sub_nil _)))) ?_
        refine sr_nil (hK11 _ _ ?_)
        refine' sc_or [(2, _, _)] (sub_cons rfl (sub_cons rfl (sub_nil _))) rfl (fun hb7 => ?y7) (fun a ha => ⟨ha, rfl⟩)
        case y7 =>
         refine sc_seq fun K12 hK12 => ?_
         refine sc_text [3, 3] ?_
         refine sr_pu rfl (fun _ => rd_seq (ev_t rfl) ev_c) ?_
         refine sr_pu rfl (fun _ => rd_assign (ev_t rfl)) ?_
         refine sr_sub [(2, _, _), (3, _, _), (4, _, _)] (sub_cons rfl (sub_cons rfl (sub_cons rfl (sub_nil _)))) ?_
         refine sr_nil (hK12 _ _ ?_)
         refine' sc_or [(2, _, _)] (sub_cons rfl (sub_cons rfl (sub_nil _))) rfl (fun hb8 => ?y8) (fun a ha => ⟨ha, rfl⟩)
         case y8 =>
          refine sc_seq fun K13 hK13 => ?_
          refine sc_text [3, 3] ?_
          refine sr_pu rfl (fun _ => rd_seq (ev_t rfl) ev_c) ?_
          refine sr_pu rfl (fun _ => rd_assign (ev_t rfl)) ?_
          refine sr_sub [(2, _, _), (3, _, _), (4, _, _)] (sub_cons rfl (sub_cons rfl (sub_cons rfl (sub_nil _)))) ?_
          refine sr_nil (hK13 _ _ ?_)
          refine' sc_or [(2, _, _)] (sub_cons rfl (sub_cons rfl (sub_nil _))) rfl (fun hb9 => ?y9) (fun a ha => ⟨ha, rfl⟩)
          case y9 =>
           refine sc_seq fun K14 hK14 => ?_
           refine sc_text [3, 3] ?_
           refine sr_pu rfl (fun _ => rd_seq (ev_t rfl) ev_c) ?_
           refine sr_pu rfl (fun _ => rd_assign (ev_t rfl)) ?_
           refine sr_sub [(2, _, _), (3, _, _), (4, _, _)] (sub_cons rfl (sub_cons rfl (sub_cons rfl (sub_nil _)))) ?_
           refine sr_nil (hK14 _ _ ?_)
           refine' sc_or [(2, _, _)] (sub_cons rfl (sub_cons rfl (sub_nil _))) rfl (fun hb10 => ?y10) (fun a ha => ⟨ha, rfl⟩)
           case y10 =>
            refine sc_seq fun K15 hK15 => ?_
            refine sc_text [3, 3] ?_
            refine sr_pu rfl (fun _ => rd_seq (ev_t rfl) ev_c) ?_
            refine sr_pu rfl (fun _ => rd_assign (ev_t rfl)) ?_
            refine sr_sub [(2, _, _), (3, _, _), (4, _, _)] (sub_cons rfl (sub_cons rfl (sub_cons rfl (sub_nil _)))) ?_
            refine sr_nil (hK15 _ _ ?_)
            refine' sc_or [(2, _, _)] (sub_cons rfl (sub_cons rfl (sub_nil _))) rfl (fun hb11 => ?y11) (fun a ha => ⟨ha, rfl⟩)
            case y11 =>
             refine sc_seq fun K16 hK16 => ?_
             refine sc_text [3, 3] ?_
             refine sr_pu rfl (fun _ => rd_seq (ev_t rfl) ev_c) ?_
             refine sr_pu rfl (fun _ => rd_assign (ev_t rfl)) ?_
             refine sr_sub [(2, _, _), (3, _, _), (4, _, _)] (sub_cons rfl (sub_cons rfl (sub_cons rfl (sub_nil _)))) ?_
             refine sr_nil (hK16 _ _ ?_)
             refine' sc_or [(2, _, _)] (sub_cons rfl (sub_cons rfl (sub_nil _))) rfl (fun hb12 => ?y12) (fun a ha => ⟨ha, rfl⟩)
             case y12 =>
              refine sc_text [3, 3] ?_
              refine sr_pu rfl (fun _ => rd_seq (ev_t rfl) ev_c) ?_
              refine sr_pu rfl (fun _ => rd_assign (ev_t rfl)) ?_
              refine sr_sub [(4, _, _), (2, _, _)] (sub_cons rfl (sub_cons rfl (sub_nil _))) ?_
              exact sr_nil (fun a ha => ⟨ha, rfl⟩)
  case n1 =>
   refine sc_cond (ev_t rfl) (fun h13 => ?_) (fun h13 => ?_)
   · (try simp only [bsimp] at h13)
     refine sc_seq fun K17 hK17 => ?_
     refine sc_text [3] ?_
     refine sr_pu rfl (fun _ => rd_assign ev_c) ?_
     refine sr_sub [(2, _, _)] (sub_cons rfl (sub_nil _)) ?_
     refine sr_nil (hK17 _ _ ?_)
     refine sc_ret (t_ret1 rfl rfl ?_)
     refine ⟨congrArg Value.bool ?_, g⟩
     simp only [anyS, binOps]; exact (h13).symm
   (try simp only [bsimp] at h13)
   refine sc_skip (hK2 _ _ ?_)
   refine sc_sub [(2, _, _)] (sub_cons rfl (sub_nil _)) ?_
   refine sc_seq fun K18 hK18 => ?_
   refine sc_text [3] ?_
   refine sr_pu rfl (fun _ => rd_assign ev_c) ?_
   refine sr_nil (hK18 _ _ ?_)
   refine sc_ret (t_ret1 rfl rfl ?_)
   refine ⟨congrArg Value.bool ?_, g⟩
   simp only [anyS, binOps]; exact (h13).symm
end Go.Rk
