/- Merged texts of one road: Syl, Syw, Y. Conditions: each text's own. -/
import Derived.Test.YtheifopckahdiaaDoorB12
import Derived.Test.YtheifopckahdiaaDoorCards
import Derived.Test.YtheifopckahdiaaDoorTie
import Derived.Test.YtheifopckahdiaaDoorB03
import Derived.Test.YtheifopckahdiaaDoorB04
import Derived.WalkKit
import Derived.ProofKit
import Derived.OpenShut
import Derived.Deep.DeepHandedRow
import Derived.Deep.DeepWitnessRowRef
import Derived.Lib.LaidTab
import Derived.Stop.LaidErr
import Derived.ShutString
import Derived.Below
import Derived.ChangeMaps5
import Derived.Test.YtheifopckahdiaaDoorB02
set_option linter.unusedSimpArgs false
set_option linter.unusedVariables false
namespace Go.Rk
open Go Go.RowKit
set_option linter.unusedVariables false
theorem strip_idem : ∀ t, stripT (stripT t) = stripT t := by
  refine Nd.ind fun t ih => ?_
  have hc : countsB (stripT t) = countsB t := by rw [countsB, countsB, stripT_eq]; rfl
  have hn : numS (stripT t) = numS t := by
    rw [numS, hc, numS]
    cases h : countsB t
    · rfl
    · show (stripT t).num = t.num
      rw [stripT_eq]; show numS t = t.num; rw [numS, h]; rfl
  rw [stripT_eq (stripT t), hn, strip_kids, List.map_map, stripT_eq t]
  show Nd.mk t.kind t.text (numS t) 0 (t.kids.map (stripT ∘ stripT)) ty0 0 0 = _
  exact congrArg (fun l => Nd.mk t.kind t.text (numS t) 0 l ty0 0 0) (List.map_congr_left fun k hk => ih k hk)
theorem eqB_iff : ∀ a b, eqB a b = true ↔ stripT a = stripT b := by
  refine Nd.ind fun a ih b => ⟨fun h => ?_, fun h => ?_⟩
  · rw [eqB_eq, Bool.and_eq_true, List.all_eq_true] at h
    have hl := eqLoc_len h.1
    have h1 := h.1
    unfold eqLoc at h1
    simp only [Bool.and_eq_true, decide_eq_true_eq] at h1
    have hk : a.kids.map stripT = b.kids.map stripT := by
      refine List.ext_getElem (by simp [hl]) fun i h2 h3 => ?_
      have h2' : i < a.kids.length := by simpa using h2
      have h3' : i < b.kids.length := by simpa using h3
      have := h.2 i (List.mem_range.2 h2')
      rw [kidAt_eq h2', kidAt_eq h3'] at this
      simpa using (ih _ (List.getElem_mem h2') _).1 this
    have hc : countsB b = countsB a := by rw [countsB, countsB, h1.1.1.1]
    have hn : numS a = numS b := by
      rw [numS, numS, hc]
      cases hq : countsB a
      · rfl
      · have := h1.2; rw [hq] at this; simpa using this
    rw [stripT_eq a, stripT_eq b, hk, hn, h1.1.1.1, h1.1.1.2]
  · rw [stripT_eq a, stripT_eq b] at h
    injection h with hk ht hn _ hks
    have hl : a.kids.length = b.kids.length := by simpa using congrArg List.length hks
    rw [eqB_eq, Bool.and_eq_true, List.all_eq_true]
    refine ⟨?_, fun i hi => ?_⟩
    · have hc : countsB b = countsB a := by rw [countsB, countsB, hk]
      unfold eqLoc
      simp only [Bool.and_eq_true, decide_eq_true_eq]
      refine ⟨⟨⟨hk, ht⟩, lenQ_iff.2 hl⟩, ?_⟩
      rw [numS, numS, hc] at hn
      cases hq : countsB a
      · rfl
      · rw [hq] at hn; simpa using hn
    · have h2 := List.mem_range.1 hi
      have h3 : i < b.kids.length := by omega
      rw [kidAt_eq h2, kidAt_eq h3]
      refine (ih _ (List.getElem_mem h2) _).2 ?_
      have : (a.kids.map stripT)[i]? = (b.kids.map stripT)[i]? := by rw [hks]
      simpa [h2, h3] using this
theorem eqB_refl (a : Nd) : eqB a a = true := (eqB_iff a a).2 rfl
theorem eqB_symm (a b : Nd) : eqB b a = eqB a b := by
  rw [Bool.eq_iff_iff, eqB_iff, eqB_iff]; exact ⟨Eq.symm, Eq.symm⟩
theorem eqB_strip (a b : Nd) : eqB (stripT a) b = eqB a b := by
  rw [Bool.eq_iff_iff, eqB_iff, eqB_iff, strip_idem]
theorem eqB_same (a b : Nd) : eqB a b = smB (stripT a) (stripT b) := by
  rw [Bool.eq_iff_iff, eqB_iff, smB_iff]
theorem strip_count : ∀ t, count (stripT t) = count t := by
  refine Nd.ind fun t ih => ?_
  rw [count_eq, strip_kids, List.map_map, count_eq t]
  congr 2
  exact List.map_congr_left fun k hk => ih k hk
theorem great_ok (t : Nd) (v : Value) (D : Nat → Prop) (w : World) (hk : Kd w D t.kids v) (hc : count t ≤ 1048576) : Ret PP fn_l03_great #[ndV t v] w fun r w' => r = .bool (decide ((300 : Int) < (count t : Nat))) ∧ G w w' := by
  have g := G.refl w
  refine ret_of_sc (m := 6) func_l03_great rfl rfl [(0, True, _)] (sub_cons rfl (sub_nil _)) ?_
  refine sc_seq fun K1 hK1 => ?_
  refine sc_text [1, 3] ?_
  refine sr_box rfl (ev_t rfl) rfl ?_
  intro b1 w1 N1
  have l1 := N1.ge g
  have g := g.trans (N1.g)
  have B1 := N1.blk
  refine sr_pu rfl (fun _ => rd_assign ev_c) ?_
  refine sr_sub [(1, _, _), (2, _, _)] (sub_cons rfl (sub_cons rfl (sub_nil _))) ?_
  refine sr_nil (hK1 _ _ ?_)
  refine sc_seq fun K2 hK2 => ?_
  refine sc_text [0, 1, 3, 3] ?_
  refine sr_rd rfl (rd_loads agg_api_Node (ev_t rfl) rfl (fun _ => B1.row)) ?_
  refine sr_call rfl (rc_call go_r03_Count ev_f (args_cons (ev_t rfl) (args_nil)) rfl) (rcount_ok t v D _ (hk.grow g) (by omega)) ?_
  rintro v4 w4 ⟨rfl, g4⟩
  refine ⟨fun _ => g4, ?_⟩
  have g := g.trans (g4)
  replace B1 := B1.grow (g4)
  refine sr_pu rfl (fun _ => rd_gt (ev_t rfl) ev_c) ?_
  refine sr_pu rfl (fun _ => rd_assign (ev_t rfl)) ?_
  refine sr_sub [(2, _, _)] (sub_cons rfl (sub_nil _)) ?_
  refine sr_nil (hK2 _ _ ?_)
  refine sc_ret (t_ret1 rfl rfl ?_)
  exact ⟨rfl, g⟩
theorem sequal_law (a b : Nd) (va vb : Value) (D D' : Nat → Prop) (w : World) (hL : Laid w) (hb3 : 4 ≤ w.heap.size) (hT : TabP w) (hka : Kd w D a.kids va) (hkb : Kd w D' b.kids vb) (hca : count a ≤ 1048576) (hcb : count b ≤ 1048576) : Ret PP fn_l03_SyntaxEqual #[ndV a va, ndV b vb] w fun r w' => r = .bool true ∧ G w w' := by
  have g := G.refl w
  have hla := kids_le a
  have hlb := kids_le b
  refine ret_of_sc (m := 42) func_l03_SyntaxEqual rfl rfl [(0, True, _), (1, True, _)] (sub_cons rfl (sub_cons rfl (sub_nil _))) ?_
  refine sc_seq fun K1 hK1 => ?_
  refine sc_text [1, 1, 3] ?_
  refine sr_box rfl (ev_t rfl) rfl ?_
  intro b2 w2 N2
  have l2 := N2.ge g
  have g := g.trans (N2.g)
  have B2 := N2.blk
  refine sr_box rfl (ev_t rfl) rfl ?_
  intro b3 w3 N3
  have x3_2 := N3.ne B2
  have l3 := N3.ge g
  have g := g.trans (N3.g)
  replace B2 := B2.grow (N3.g)
  have B3 := N3.blk
  refine sr_pu rfl (fun _ => rd_assign ev_c) ?_
  refine sr_sub [(2, _, _), (3, _, _), (4, _, _)] (sub_cons rfl (sub_cons rfl (sub_cons rfl (sub_nil _)))) ?_
  refine sr_nil (hK1 _ _ ?_)
  refine sc_seq fun K2 hK2 => ?_
  refine sc_seq fun K3 hK3 => ?_
  refine sc_text [1, 3] ?_
  refine sr_call rfl (rc_call go_l03_awake ev_f (args_nil) rfl) (awake03_ok _ (hL.grow g) (by have := g.size; omega) (hT.grow g)) ?_
  rintro v6 w6 ⟨rfl, g6⟩
  refine ⟨fun _ => g6, ?_⟩
  have g := g.trans (g6)
  replace B2 := B2.grow (g6)
  replace B3 := B3.grow (g6)
  refine sr_pu rfl (fun _ => rd_not (ev_t rfl)) ?_
  refine sr_sub [(2, _, _), (3, _, _), (4, _, _), (7, _, _)] (sub_cons rfl (sub_cons rfl (sub_cons rfl (sub_cons rfl (sub_nil _))))) ?_
  refine sr_nil (hK3 _ _ ?_)
  refine sc_cond (ev_t rfl) (fun h1 => ?_) (fun h1 => ?_)
  · exfalso; cases h1
    done
  (try simp only [bsimp] at h1)
  refine sc_skip (hK2 _ _ ?_)
  refine sc_sub [(2, _, _), (3, _, _), (4, _, _)] (sub_cons rfl (sub_cons rfl (sub_cons rfl (sub_nil _)))) ?_
  refine sc_seq fun K4 hK4 => ?_
  refine sc_seq fun K5 hK5 => ?_
  refine sc_text [0, 1, 3, 0, 1, 3] ?_
  refine sr_rd rfl (rd_loads agg_api_Node (ev_t rfl) rfl (fun _ => B2.row)) ?_
  refine sr_pure rfl (rc_call go_l03_great ev_f (args_cons (ev_t rfl) (args_nil)) rfl) (great_ok a va D _ (hka.grow g) hca) (fun w9 g9 => ?_)
  have g := g.trans (g9)
  replace B2 := B2.grow (g9)
  replace B3 := B3.grow (g9)
  refine sr_pu rfl (fun _ => rd_move (ev_t rfl)) ?_
  refine sr_rdg rfl rfl rfl (rd_loads agg_api_Node (ev_t rfl) rfl (fun _ => B3.row)) ?_
  refine sr_pureg rfl rfl rfl (fun _ => (rc_call go_l03_great ev_f (args_cons (ev_u rfl id) (args_nil)) rfl)) (fun hc => great_ok b vb D' _ (hkb.grow g) hcb) (fun w12 g12 => ?_)
  have g := g.trans (g12)
  replace B2 := B2.grow (g12)
  replace B3 := B3.grow (g12)
  refine sr_pu rfl (fun _ => rd_pick_or (ev_t rfl) (ev_u rfl id)) ?_
  refine sr_sub [(2, _, _), (3, _, _), (4, _, _), (13, _, _)] (sub_cons rfl (sub_cons rfl (sub_cons rfl (sub_cons rfl (sub_nil _))))) ?_
  refine sr_nil (hK5 _ _ ?_)
  refine sc_cond (ev_t rfl) (fun h2 => ?_) (fun h2 => ?_)
  · (try simp only [bsimp] at h2)
    refine sc_seq fun K6 hK6 => ?_
    refine sc_text [3] ?_
    refine sr_pu rfl (fun _ => rd_assign ev_c) ?_
    refine sr_sub [(2, _, _), (3, _, _), (4, _, _)] (sub_cons rfl (sub_cons rfl (sub_cons rfl (sub_nil _)))) ?_
    refine sr_nil (hK6 _ _ ?_)
    refine sc_ret (t_ret1 rfl rfl ?_)
    exact ⟨rfl, g⟩
  replace h2 : count a ≤ 300 ∧ count b ≤ 300 := by simp only [Bool.or_eq_false_iff, decide_eq_false_iff_not] at h2; omega
  refine sc_skip (hK4 _ _ ?_)
  refine sc_sub [(2, _, _), (3, _, _), (4, _, _)] (sub_cons rfl (sub_cons rfl (sub_cons rfl (sub_nil _)))) ?_
  refine sc_seq fun K7 hK7 => ?_
  refine sc_text [0, 0, 1, 3] ?_
  refine sr_rd rfl (rd_loads agg_api_Node (ev_t rfl) rfl (fun _ => B2.row)) ?_
  refine sr_rd rfl (rd_loads agg_api_Node (ev_t rfl) rfl (fun _ => B3.row)) ?_
  refine sr_pure rfl (rc_call go_syntax_Equal ev_f (args_cons (ev_t rfl) (args_cons (ev_t rfl) (args_nil))) rfl) (sequal_ok a va D b vb D' _ (hka.grow g) (hkb.grow g) (by omega)) (fun w16 g16 => ?_)
  have g := g.trans (g16)
  replace B2 := B2.grow (g16)
  replace B3 := B3.grow (g16)
  refine sr_pu rfl (fun _ => rd_assign (ev_t rfl)) ?_
  refine sr_sub [(2, _, _), (3, _, _), (4, _, _), (5, _, _)] (sub_cons rfl (sub_cons rfl (sub_cons rfl (sub_cons rfl (sub_nil _))))) ?_
  refine sr_nil (hK7 _ _ ?_)
  refine sc_seq fun K8 hK8 => ?_
  skip
  refine sc_draw [3, 0, 0, 1, 3, 3, 3, 0, 0, 1, 3, 3, 3, 0, 0, 1, 3, 3, 3, 0, 1, 0, 1, 3, 3, 3] [true, true, true, true, true, true, true, true, true, true, true, true, true, true, true, true, true, true, true, true, true, false, true, true, true, true] [0, 0, 0, 6, 15, 31, 63, 63, 63, 447, 1023, 2047, 4095, 8191, 8191, 32767, 65535, 131071, 262143, 262143, 786431, 262143, 3932159, 8388607, 16777215, 33554431] mix (by kernel_rfl) ?_
  have g := g.trans (G.drew _)
  replace B2 := B2.grow (G.drew _)
  replace B3 := B3.grow (G.drew _)
  have C2 := B2
  have C3 := B3
  refine sr_pu rfl (fun _ => rd_move (ev_t rfl)) ?_
  refine sr_rd rfl (rd_loads agg_api_Node (ev_t rfl) rfl (fun _ => B2.row)) ?_
  refine sr_rd rfl (rd_loads agg_api_Node (ev_t rfl) rfl (fun _ => B3.row)) ?_
  refine sr_pure rfl (rc_call go_r03_Equal ev_f (args_cons (ev_t rfl) (args_cons (ev_t rfl) (args_nil))) rfl) (requal_ok a va D b vb D' _ (hka.grow g) (hkb.grow g) (by omega)) (fun w20 g20 => ?_)
  have g := g.trans (g20)
  replace B2 := B2.grow (g20)
  replace B3 := B3.grow (g20)
  refine sr_pu rfl (fun _ => rd_beq und_bool (ev_t rfl) (ev_t rfl)) ?_
  refine sr_pu rfl (fun _ => rd_move (ev_t rfl)) ?_
  refine sr_pug rfl rfl rfl (fun _ => rd_move (ev_t rfl)) ?_
  refine sr_rdg rfl rfl rfl (rd_loads agg_api_Node (ev_t rfl) rfl (fun _ => B3.row)) ?_
  refine sr_rdg rfl rfl rfl (rd_loads agg_api_Node (ev_t rfl) rfl (fun _ => B2.row)) ?_
  refine sr_pureg rfl rfl rfl (fun _ => (rc_call go_syntax_Equal ev_f (args_cons (ev_u rfl id) (args_cons (ev_u rfl id) (args_nil))) rfl)) (fun hc => sequal_ok b vb D' a va D _ (hkb.grow g) (hka.grow g) (by omega)) (fun w26 g26 => ?_)
  have g := g.trans (g26)
  replace B2 := B2.grow (g26)
  replace B3 := B3.grow (g26)
  refine sr_pug rfl rfl rfl (fun _ => rd_beq und_bool (ev_u rfl id) (ev_u rfl id)) ?_
  refine sr_pu rfl (fun _ => rd_pick_and (ev_t rfl) (ev_u rfl id)) ?_
  refine sr_pu rfl (fun _ => rd_move (ev_t rfl)) ?_
  refine sr_rdg rfl rfl rfl (rd_loads agg_api_Node (ev_t rfl) rfl (fun _ => B2.row)) ?_
  refine sr_rdg rfl rfl rfl (rd_loads agg_api_Node (ev_t rfl) rfl (fun _ => B2.row)) ?_
  refine sr_pureg rfl rfl rfl (fun _ => (rc_call go_syntax_Equal ev_f (args_cons (ev_u rfl id) (args_cons (ev_u rfl id) (args_nil))) rfl)) (fun hc => sequal_ok a va D a va D _ (hka.grow g) (hka.grow g) (by omega)) (fun w32 g32 => ?_)
  have g := g.trans (g32)
  replace B2 := B2.grow (g32)
  replace B3 := B3.grow (g32)
  refine sr_pu rfl (fun _ => rd_pick_and (ev_t rfl) (ev_u rfl id)) ?_
  refine sr_pu rfl (fun _ => rd_move (ev_t rfl)) ?_
  refine sr_pug rfl rfl rfl (fun _ => rd_move (ev_t rfl)) ?_
  refine sr_rdg rfl rfl rfl (rd_loads agg_api_Node (ev_t rfl) rfl (fun _ => B2.row)) ?_
  refine sr_callq rfl rfl rfl (fun _ => rc_call go_syntax_Strip ev_f (args_cons (ev_u rfl id) (args_nil)) rfl) (fun hc => sstrip_ok a va D _ (hka.grow g) (by omega) (by omega)) ?_
  intro v37 w37 hv37 g37
  have g := g.trans (g37)
  replace B2 := B2.grow (g37)
  replace B3 := B3.grow (g37)
  refine sr_rdg0 rfl rfl rfl (rd_loads agg_api_Node (ev_t rfl) rfl (fun _ => C3.row)) ?_
  refine sr_pureg rfl rfl rfl (fun _ => (rc_call go_syntax_Equal ev_f (args_cons (ev_u rfl id) (args_cons (ev_u rfl id) (args_nil))) rfl)) (fun hc => (by obtain ⟨p5, c5, e5, k5⟩ := hv37 hc; rw [e5]; exact sequal_ok (stripT a) _ _ b vb D' _ k5 (hkb.grow g) (by rw [strip_count]; omega))) (fun w39 g39 => ?_)
  have g := g.trans (g39)
  replace B2 := B2.grow (g39)
  replace B3 := B3.grow (g39)
  refine sr_pug rfl rfl rfl (fun _ => rd_beq und_bool (ev_u rfl id) (ev_u rfl id)) ?_
  refine sr_pu rfl (fun _ => rd_pick_and (ev_t rfl) (ev_u rfl id)) ?_
  refine sr_pu rfl (fun _ => rd_assign (ev_t rfl)) ?_
  refine sr_sub [(4, _, _)] (sub_cons rfl (sub_nil _)) ?_
  refine sr_nil (hK8 _ _ ?_)
  refine sc_ret (t_ret1 rfl rfl ?_)
  refine ⟨congrArg Value.bool ?_, g⟩
  rw [eqB_strip, eqB_symm a b, eqB_refl]; simp
theorem sstrip_law (a b : Nd) (va vb : Value) (D D' : Nat → Prop) (w : World) (hL : Laid w) (hb3 : 4 ≤ w.heap.size) (hT : TabP w) (hka : Kd w D a.kids va) (hkb : Kd w D' b.kids vb) (hca : count a ≤ 1048576) (hcb : count b ≤ 1048576) : Ret PP fn_l03_SyntaxStrip #[ndV a va, ndV b vb] w fun r w' => r = .bool true ∧ G w w' := by
  have g := G.refl w
  have hla := kids_le a
  have hlb := kids_le b
  have hcs := strip_count a
  refine ret_of_sc (m := 37) func_l03_SyntaxStrip rfl rfl [(0, True, _), (1, True, _)] (sub_cons rfl (sub_cons rfl (sub_nil _))) ?_
  refine sc_seq fun K1 hK1 => ?_
  refine sc_text [1, 1, 3] ?_
  refine sr_box rfl (ev_t rfl) rfl ?_
  intro b2 w2 N2
  have l2 := N2.ge g
  have g := g.trans (N2.g)
  try have hk16 := hk16.grow (N2.g)
  try have hk19 := hk19.grow (N2.g)
  try have hk34 := hk34.grow (N2.g)
  have B2 := N2.blk
  refine sr_box rfl (ev_t rfl) rfl ?_
  intro b3 w3 N3
  have x3_2 := N3.ne B2
  have l3 := N3.ge g
  have g := g.trans (N3.g)
  replace B2 := B2.grow (N3.g)
  try have hk16 := hk16.grow (N3.g)
  try have hk19 := hk19.grow (N3.g)
  try have hk34 := hk34.grow (N3.g)
  have B3 := N3.blk
  refine sr_pu rfl (fun _ => rd_assign ev_c) ?_
  refine sr_sub [(2, _, _), (3, _, _), (4, _, _)] (sub_cons rfl (sub_cons rfl (sub_cons rfl (sub_nil _)))) ?_
  refine sr_nil (hK1 _ _ ?_)
  refine sc_seq fun K2 hK2 => ?_
  refine sc_seq fun K3 hK3 => ?_
  refine sc_text [1, 3] ?_
  refine sr_call rfl (rc_call go_l03_awake ev_f (args_nil) rfl) (awake03_ok _ (hL.grow g) (by have := g.size; omega) (hT.grow g)) ?_
  rintro v6 w6 ⟨rfl, g6⟩
  refine ⟨fun _ => g6, ?_⟩
  have g := g.trans (g6)
  replace B2 := B2.grow (g6)
  replace B3 := B3.grow (g6)
  try have hk16 := hk16.grow (g6)
  try have hk19 := hk19.grow (g6)
  try have hk34 := hk34.grow (g6)
  refine sr_pu rfl (fun _ => rd_not (ev_t rfl)) ?_
  refine sr_sub [(2, _, _), (3, _, _), (4, _, _), (7, _, _)] (sub_cons rfl (sub_cons rfl (sub_cons rfl (sub_cons rfl (sub_nil _))))) ?_
  refine sr_nil (hK3 _ _ ?_)
  refine sc_cond (ev_t rfl) (fun h1 => ?_) (fun h1 => ?_)
  · exfalso; cases h1
    done
  (try simp only [bsimp] at h1)
  refine sc_skip (hK2 _ _ ?_)
  refine sc_sub [(2, _, _), (3, _, _), (4, _, _)] (sub_cons rfl (sub_cons rfl (sub_cons rfl (sub_nil _)))) ?_
  refine sc_seq fun K4 hK4 => ?_
  refine sc_seq fun K5 hK5 => ?_
  refine sc_text [0, 1, 3, 0, 1, 3] ?_
  refine sr_rd rfl (rd_loads agg_api_Node (ev_t rfl) rfl (fun _ => B2.row)) ?_
  refine sr_pure rfl (rc_call go_l03_great ev_f (args_cons (ev_t rfl) (args_nil)) rfl) (great_ok a va D _ (hka.grow g) hca) (fun w9 g9 => ?_)
  have g := g.trans (g9)
  replace B2 := B2.grow (g9)
  replace B3 := B3.grow (g9)
  try have hk16 := hk16.grow (g9)
  try have hk19 := hk19.grow (g9)
  try have hk34 := hk34.grow (g9)
  refine sr_pu rfl (fun _ => rd_move (ev_t rfl)) ?_
  refine sr_rdg rfl rfl rfl (rd_loads agg_api_Node (ev_t rfl) rfl (fun _ => B3.row)) ?_
  refine sr_pureg rfl rfl rfl (fun _ => (rc_call go_l03_great ev_f (args_cons (ev_u rfl id) (args_nil)) rfl)) (fun hc => great_ok b vb D' _ (hkb.grow g) hcb) (fun w12 g12 => ?_)
  have g := g.trans (g12)
  replace B2 := B2.grow (g12)
  replace B3 := B3.grow (g12)
  try have hk16 := hk16.grow (g12)
  try have hk19 := hk19.grow (g12)
  try have hk34 := hk34.grow (g12)
  refine sr_pu rfl (fun _ => rd_pick_or (ev_t rfl) (ev_u rfl id)) ?_
  refine sr_sub [(2, _, _), (3, _, _), (4, _, _), (13, _, _)] (sub_cons rfl (sub_cons rfl (sub_cons rfl (sub_cons rfl (sub_nil _))))) ?_
  refine sr_nil (hK5 _ _ ?_)
  refine sc_cond (ev_t rfl) (fun h2 => ?_) (fun h2 => ?_)
  · (try simp only [bsimp] at h2)
    refine sc_seq fun K6 hK6 => ?_
    refine sc_text [3] ?_
    refine sr_pu rfl (fun _ => rd_assign ev_c) ?_
    refine sr_sub [(2, _, _), (3, _, _), (4, _, _)] (sub_cons rfl (sub_cons rfl (sub_cons rfl (sub_nil _)))) ?_
    refine sr_nil (hK6 _ _ ?_)
    refine sc_ret (t_ret1 rfl rfl ?_)
    exact ⟨rfl, g⟩
  replace h2 : count a ≤ 300 ∧ count b ≤ 300 := by simp only [Bool.or_eq_false_iff, decide_eq_false_iff_not] at h2; omega
  refine sc_skip (hK4 _ _ ?_)
  refine sc_sub [(2, _, _), (3, _, _), (4, _, _)] (sub_cons rfl (sub_cons rfl (sub_cons rfl (sub_nil _)))) ?_
  refine sc_seq fun K7 hK7 => ?_
  refine sc_text [0, 1, 1, 1, 2] ?_
  refine sr_rd rfl (rd_loads agg_api_Node (ev_t rfl) rfl (fun _ => B2.row)) ?_
  refine sr_call rfl (rc_call go_r03_Copy ev_f (args_cons (ev_t rfl) (args_nil)) rfl) (rcopy_ok a va D _ (hka.grow g) (by omega) (by omega)) ?_
  rintro v15 w15 ⟨⟨p15, c15, rfl, hk15⟩, g15⟩
  refine ⟨fun _ => g15, ?_⟩
  have g := g.trans g15
  replace B2 := B2.grow (g15)
  replace B3 := B3.grow (g15)
  try have hk16 := hk16.grow (g15)
  try have hk19 := hk19.grow (g15)
  try have hk34 := hk34.grow (g15)
  refine sr_call rfl (rc_call go_syntax_Strip ev_f (args_cons (ev_t rfl) (args_nil)) rfl) (sstrip_ok a _ _ _ hk15 (by omega) (by omega)) ?_
  rintro v16 w16 ⟨⟨p16, c16, rfl, hk16⟩, g16⟩
  refine ⟨fun _ => g16, ?_⟩
  have g := g.trans g16
  replace hk16 := hk16.lt
  replace B2 := B2.grow (g16)
  replace B3 := B3.grow (g16)
  try have hk16 := hk16.grow (g16)
  try have hk19 := hk19.grow (g16)
  try have hk34 := hk34.grow (g16)
  refine sr_alloc rfl ze_api_Node rfl ?_
  intro b5 w5 N5
  have x5_2 := N5.ne B2
  have x5_3 := N5.ne B3
  have l5 := N5.ge g
  have g := g.trans (N5.g)
  replace B2 := B2.grow (N5.g)
  replace B3 := B3.grow (N5.g)
  try have hk16 := hk16.grow (N5.g)
  try have hk19 := hk19.grow (N5.g)
  try have hk34 := hk34.grow (N5.g)
  have B5 := N5.blk
  refine sr_store_all rfl sz_api_Node (ev_t rfl) (ev_t rfl) rfl rfl B5 rfl rfl ?_
  intro wS1 hgS1 hzS1
  clear B5
  intro B5
  replace B2 := B2.keep hgS1 (by intro h; injection h with h; first | exact x5_2 h.symm | exact x2_5 h | omega)
  replace B3 := B3.keep hgS1 (by intro h; injection h with h; first | exact x5_3 h.symm | exact x3_5 h | omega)
  have g := g_only g hgS1 (by intro k hk; injection hk with hk; omega)
  have hk16 := hk16.keep hgS1 (fun b hb _ e => by injection e with e; have := hb.2; have := N5.at_; omega)
  refine sr_sub [(2, _, _), (3, _, _), (4, _, _), (5, _, _)] (sub_cons rfl (sub_cons rfl (sub_cons rfl (sub_cons rfl (sub_nil _))))) ?_
  refine sr_nil (hK7 _ _ ?_)
  refine sc_seq fun K8 hK8 => ?_
  refine sc_seq fun K9 hK9 => ?_
  skip
  refine sc_draw [0, 0, 1, 1, 3, 3, 0, 1, 0, 1, 3, 3] [true, true, true, true, true, true, true, true, false, true, true, true] [0, 0, 2, 7, 15, 31, 63, 127, 63, 511, 1023, 2047] mix (by kernel_rfl) ?_
  have g := g.trans (G.drew _)
  replace B2 := B2.grow (G.drew _)
  replace B3 := B3.grow (G.drew _)
  replace B5 := B5.grow (G.drew _)
  try have hk16 := hk16.grow (G.drew _)
  try have hk19 := hk19.grow (G.drew _)
  try have hk34 := hk34.grow (G.drew _)
  have C2 := B2
  have C3 := B3
  have C5 := B5
  refine sr_rd rfl (rd_loads agg_api_Node (ev_t rfl) rfl (fun _ => B5.row)) ?_
  refine sr_rd rfl (rd_loads agg_api_Node (ev_t rfl) rfl (fun _ => B2.row)) ?_
  refine sr_call rfl (rc_call go_r03_Strip ev_f (args_cons (ev_t rfl) (args_nil)) rfl) (rstrip_ok a va D _ (hka.grow g) (by omega) (by omega)) ?_
  rintro v19 w19 ⟨⟨p19, c19, rfl, hk19⟩, g19⟩
  refine ⟨fun _ => g19, ?_⟩
  have g := g.trans g19
  have hk16 := hk16.grow g19
  replace B2 := B2.grow (g19)
  replace B3 := B3.grow (g19)
  replace B5 := B5.grow (g19)
  try have hk16 := hk16.grow (g19)
  try have hk19 := hk19.grow (g19)
  try have hk34 := hk34.grow (g19)
  refine sr_pure rfl (rc_call go_r03_Same ev_f (args_cons (ev_t rfl) (args_cons (ev_t rfl) (args_nil))) rfl) (rsame_ok (stripT a) _ _ (stripT a) _ _ _ hk16 hk19 (by omega)) (fun w20 g20 => ?_)
  have g := g.trans (g20)
  replace B2 := B2.grow (g20)
  replace B3 := B3.grow (g20)
  replace B5 := B5.grow (g20)
  try have hk16 := hk16.grow (g20)
  try have hk19 := hk19.grow (g20)
  try have hk34 := hk34.grow (g20)
  refine sr_pu rfl (fun _ => rd_not (ev_t rfl)) ?_
  refine sr_pu rfl (fun _ => rd_move (ev_t rfl)) ?_
  refine sr_rdg rfl rfl rfl (rd_loads agg_api_Node (ev_t rfl) rfl (fun _ => B5.row)) ?_
  refine sr_callq rfl rfl rfl (fun _ => rc_call go_syntax_Strip ev_f (args_cons (ev_u rfl id) (args_nil)) rfl) (fun hc => sstrip_ok (stripT a) _ _ _ hk16 (by rw [strip_len]; omega) (by omega)) ?_
  intro v24 w24 hv24 g24
  have g := g.trans (g24)
  replace B2 := B2.grow (g24)
  replace B3 := B3.grow (g24)
  replace B5 := B5.grow (g24)
  try have hk16 := hk16.grow (g24)
  try have hk19 := hk19.grow (g24)
  try have hk34 := hk34.grow (g24)
  refine sr_rdg0 rfl rfl rfl (rd_loads agg_api_Node (ev_t rfl) rfl (fun _ => C5.row)) ?_
  refine sr_pureg rfl rfl rfl (fun _ => (rc_call go_r03_Same ev_f (args_cons (ev_u rfl id) (args_cons (ev_u rfl id) (args_nil))) rfl)) (fun hc => (by obtain ⟨p5, c5, e5, k5⟩ := hv24 hc; rw [e5]; exact rsame_ok (stripT (stripT a)) _ _ (stripT a) _ _ _ k5 hk16 (by rw [strip_count]; omega))) (fun w26 g26 => ?_)
  have g := g.trans (g26)
  replace B2 := B2.grow (g26)
  replace B3 := B3.grow (g26)
  replace B5 := B5.grow (g26)
  try have hk16 := hk16.grow (g26)
  try have hk19 := hk19.grow (g26)
  try have hk34 := hk34.grow (g26)
  refine sr_pug rfl rfl rfl (fun _ => rd_not (ev_u rfl id)) ?_
  refine sr_pu rfl (fun _ => rd_pick_or (ev_t rfl) (ev_u rfl id)) ?_
  refine sr_sub [(2, _, _), (3, _, _), (4, _, _), (5, _, _), (28, _, _)] (sub_cons rfl (sub_cons rfl (sub_cons rfl (sub_cons rfl (sub_cons rfl (sub_nil _)))))) ?_
  refine sr_nil (hK9 _ _ ?_)
  refine sc_cond (ev_t rfl) (fun h3 => ?_) (fun h3 => ?_)
  · exfalso; rw [strip_idem, smB_refl] at h3; revert h3; simp
    done
  (try simp only [bsimp] at h3)
  refine sc_skip (hK8 _ _ ?_)
  refine sc_sub [(2, _, _), (3, _, _), (4, _, _), (5, _, _)] (sub_cons rfl (sub_cons rfl (sub_cons rfl (sub_cons rfl (sub_nil _))))) ?_
  refine sc_seq fun K10 hK10 => ?_
  skip
  refine sc_draw [0, 0, 1, 0, 0, 1, 1, 3, 3] [true, true, true, false, false, true, true, true, true] [0, 0, 3, 0, 0, 23, 63, 127, 255] mix (by kernel_rfl) ?_
  have g := g.trans (G.drew _)
  replace B2 := B2.grow (G.drew _)
  replace B3 := B3.grow (G.drew _)
  replace B5 := B5.grow (G.drew _)
  try have hk16 := hk16.grow (G.drew _)
  try have hk19 := hk19.grow (G.drew _)
  try have hk34 := hk34.grow (G.drew _)
  have C2 := B2
  have C3 := B3
  have C5 := B5
  refine sr_rd rfl (rd_loads agg_api_Node (ev_t rfl) rfl (fun _ => B2.row)) ?_
  refine sr_rd rfl (rd_loads agg_api_Node (ev_t rfl) rfl (fun _ => B3.row)) ?_
  refine sr_pure rfl (rc_call go_syntax_Equal ev_f (args_cons (ev_t rfl) (args_cons (ev_t rfl) (args_nil))) rfl) (sequal_ok a va D b vb D' _ (hka.grow g) (hkb.grow g) (by omega)) (fun w31 g31 => ?_)
  have g := g.trans (g31)
  replace B2 := B2.grow (g31)
  replace B3 := B3.grow (g31)
  replace B5 := B5.grow (g31)
  try have hk16 := hk16.grow (g31)
  try have hk19 := hk19.grow (g31)
  try have hk34 := hk34.grow (g31)
  refine sr_rd0 rfl (rd_loads agg_api_Node (ev_t rfl) rfl (fun _ => C5.row)) ?_
  refine sr_rd0 rfl (rd_loads agg_api_Node (ev_t rfl) rfl (fun _ => C3.row)) ?_
  refine sr_call rfl (rc_call go_syntax_Strip ev_f (args_cons (ev_t rfl) (args_nil)) rfl) (sstrip_ok b vb D' _ (hkb.grow g) (by omega) (by omega)) ?_
  rintro v34 w34 ⟨⟨p34, c34, rfl, hk34⟩, g34⟩
  refine ⟨fun _ => g34, ?_⟩
  have g := g.trans g34
  have hk16 := hk16.grow g34
  replace B2 := B2.grow (g34)
  replace B3 := B3.grow (g34)
  replace B5 := B5.grow (g34)
  try have hk16 := hk16.grow (g34)
  try have hk19 := hk19.grow (g34)
  try have hk34 := hk34.grow (g34)
  refine sr_pure rfl (rc_call go_r03_Same ev_f (args_cons (ev_t rfl) (args_cons (ev_t rfl) (args_nil))) rfl) (rsame_ok (stripT a) _ _ (stripT b) _ _ _ hk16 hk34 (by omega)) (fun w35 g35 => ?_)
  have g := g.trans (g35)
  replace B2 := B2.grow (g35)
  replace B3 := B3.grow (g35)
  replace B5 := B5.grow (g35)
  try have hk16 := hk16.grow (g35)
  try have hk19 := hk19.grow (g35)
  try have hk34 := hk34.grow (g35)
  refine sr_pu rfl (fun _ => rd_beq und_bool (ev_t rfl) (ev_t rfl)) ?_
  refine sr_pu rfl (fun _ => rd_assign (ev_t rfl)) ?_
  refine sr_sub [(4, _, _)] (sub_cons rfl (sub_nil _)) ?_
  refine sr_nil (hK10 _ _ ?_)
  refine sc_ret (t_ret1 rfl rfl ?_)
  refine ⟨congrArg Value.bool ?_, g⟩
  rw [eqB_same]; simp
end Go.Rk
namespace Go.Rk
open Go Go.RowKit
set_option linter.unusedVariables false
theorem pre_get {pre L : List Nd} {x : Nd} (h : pre ++ [x] <+: L) : ∃ hi : pre.length < L.length, L[pre.length] = x := by
  obtain ⟨s, rfl⟩ := h
  exact ⟨by simp, by simp⟩
set_option maxHeartbeats 2000000 in
theorem swalk_law (t : Nd) (v : Value) (z : Nat) (D : Nat → Prop) (w : World) (hL : Laid w) (hb3 : 4 ≤ w.heap.size) (hT : TabP w) (hk : Kd w D t.kids v) (hc : count t ≤ 1048576) (hz : z ≤ 255) : Ret PP fn_l03_SyntaxWalk #[ndV t v, .int .u8 z] w fun r w' => r = .bool true ∧ G w w' := by
  have g := G.refl w
  have hln := kids_le t
  have hkW := hk.lt
  generalize hDq : (fun b => D b ∧ b < w.heap.size) = D0 at hkW
  have hD0 : ∀ k, D0 k → k < w.heap.size := fun k h => by rw [← hDq] at h; exact h.2
  have hk0 := hkW
  refine ret_of_scd (m := 60) func_l03_SyntaxWalk rfl rfl [(0, True, _), (1, True, _)] (sub_cons rfl (sub_cons rfl (sub_nil _))) ?_
  refine scd_seq fun K1 hK1 => ?_
  refine scd_text [1, 1, 1] ?_
  refine sr_box rfl (ev_t rfl) rfl ?_
  intro b2 w2 N2
  have l2 := N2.ge g
  have g := g.trans (N2.g)
  try have hk0 := hk0.grow (N2.g)
  try have hk14 := hk14.grow (N2.g)
  try have hdb1 := obj_grow hdb1 (N2.g)
  try have hdb2 := obj_grow hdb2 (N2.g)
  try have hkx := hkx.grow (N2.g)
  have B2 := N2.blk
  refine sr_box rfl (ev_t rfl) rfl ?_
  intro b3 w3 N3
  have x3_2 := N3.ne B2
  have l3 := N3.ge g
  have g := g.trans (N3.g)
  replace B2 := B2.grow (N3.g)
  try have hk0 := hk0.grow (N3.g)
  try have hk14 := hk14.grow (N3.g)
  try have hdb1 := obj_grow hdb1 (N3.g)
  try have hdb2 := obj_grow hdb2 (N3.g)
  try have hkx := hkx.grow (N3.g)
  have B3 := N3.blk
  refine sr_alloc rfl ze_bool rfl ?_
  intro b4 w4 N4
  have x4_2 := N4.ne B2
  have x4_3 := N4.ne B3
  have l4 := N4.ge g
  have g := g.trans (N4.g)
  replace B2 := B2.grow (N4.g)
  replace B3 := B3.grow (N4.g)
  try have hk0 := hk0.grow (N4.g)
  try have hk14 := hk14.grow (N4.g)
  try have hdb1 := obj_grow hdb1 (N4.g)
  try have hdb2 := obj_grow hdb2 (N4.g)
  try have hkx := hkx.grow (N4.g)
  have B4 := N4.blk
  refine sr_sub [(2, _, _), (3, _, _), (4, _, _)] (sub_cons rfl (sub_cons rfl (sub_cons rfl (sub_nil _)))) ?_
  refine sr_nil (hK1 _ _ _ ?_)
  refine scd_seq fun K2 hK2 => ?_
  refine scd_seq fun K3 hK3 => ?_
  refine scd_text [1, 3] ?_
  refine sr_call rfl (rc_call go_l03_awake ev_f (args_nil) rfl) (awake03_ok _ (hL.grow g) (by have := g.size; omega) (hT.grow g)) ?_
  rintro v9 w9 ⟨rfl, g9⟩
  refine ⟨fun _ => g9, ?_⟩
  have g := g.trans (g9)
  replace B2 := B2.grow (g9)
  replace B3 := B3.grow (g9)
  replace B4 := B4.grow (g9)
  try have hk0 := hk0.grow (g9)
  try have hk14 := hk14.grow (g9)
  try have hdb1 := obj_grow hdb1 (g9)
  try have hdb2 := obj_grow hdb2 (g9)
  try have hkx := hkx.grow (g9)
  refine sr_pu rfl (fun _ => rd_not (ev_t rfl)) ?_
  refine sr_sub [(2, _, _), (3, _, _), (4, _, _), (10, _, _)] (sub_cons rfl (sub_cons rfl (sub_cons rfl (sub_cons rfl (sub_nil _))))) ?_
  refine sr_nil (hK3 _ _ _ ?_)
  refine scd_cond (ev_t rfl) (fun h1 => ?_) (fun h1 => ?_)
  · exfalso; cases h1
    done
  (try simp only [bsimp] at h1)
  refine scd_skip (hK2 _ _ _ ?_)
  refine scd_sub [(2, _, _), (3, _, _), (4, _, _)] (sub_cons rfl (sub_cons rfl (sub_cons rfl (sub_nil _)))) ?_
  refine scd_seq fun K4 hK4 => ?_
  refine scd_seq fun K5 hK5 => ?_
  refine scd_text [0, 1] ?_
  refine sr_rd rfl (rd_loads agg_api_Node (ev_t rfl) rfl (fun _ => B2.row)) ?_
  refine sr_call rfl (rc_call go_l03_great ev_f (args_cons (ev_t rfl) (args_nil)) rfl) (great_ok t v D0 _ hk0 hc) ?_
  rintro v12 w12 ⟨rfl, g12⟩
  refine ⟨fun _ => g12, ?_⟩
  have g := g.trans (g12)
  replace B2 := B2.grow (g12)
  replace B3 := B3.grow (g12)
  replace B4 := B4.grow (g12)
  try have hk0 := hk0.grow (g12)
  try have hk14 := hk14.grow (g12)
  try have hdb1 := obj_grow hdb1 (g12)
  try have hdb2 := obj_grow hdb2 (g12)
  try have hkx := hkx.grow (g12)
  refine sr_sub [(2, _, _), (3, _, _), (4, _, _), (12, _, _)] (sub_cons rfl (sub_cons rfl (sub_cons rfl (sub_cons rfl (sub_nil _))))) ?_
  refine sr_nil (hK5 _ _ _ ?_)
  refine scd_cond (ev_t rfl) (fun h2 => ?_) (fun h2 => ?_)
  · (try simp only [bsimp] at h2)
    refine scd_seq fun K6 hK6 => ?_
    refine scd_text [2] ?_
    refine sr_store_all rfl sz_bool (ev_t rfl) ev_c rfl rfl B4 rfl rfl ?_
    intro wS1 hgS1 hzS1
    clear B4
    intro B4
    replace B2 := B2.keep hgS1 (by intro h; injection h with h; first | exact x4_2 h.symm | exact x2_4 h | omega)
    replace B3 := B3.keep hgS1 (by intro h; injection h with h; first | exact x4_3 h.symm | exact x3_4 h | omega)
    have g := g_only g hgS1 (by intro k hk; injection hk with hk; omega)
    try have hk0 := hk0.keep hgS1 (fun b hb _ e => by injection e with e; have := hD0 b hb; omega)
    try have hdb1 := obj_only hdb1 hgS1 hn1
    try have hdb2 := obj_only hdb2 hgS1 hn2
    refine sr_sub [(2, _, _), (3, _, _), (4, _, _)] (sub_cons rfl (sub_cons rfl (sub_cons rfl (sub_nil _)))) ?_
    refine sr_nil (hK6 _ _ _ ?_)
    refine scd_ret (td_ret (t_retv1 rfl (evr_c1 rfl one_bool (by first | exact B2.at_ rfl | exact B3.at_ rfl | exact B4.at_ rfl) (evr_nil)) ?_))
    exact ⟨rfl, g⟩
  replace h2 : count t ≤ 300 := by simp only [decide_eq_false_iff_not] at h2; omega
  refine scd_skip (hK4 _ _ _ ?_)
  refine scd_sub [(2, _, _), (3, _, _), (4, _, _)] (sub_cons rfl (sub_cons rfl (sub_cons rfl (sub_nil _)))) ?_
  refine scd_seq fun K7 hK7 => ?_
  refine scd_text [0, 1, 1, 2] ?_
  refine sr_rd rfl (rd_loads agg_api_Node (ev_t rfl) rfl (fun _ => B2.row)) ?_
  refine sr_call rfl (rc_call go_r03_List ev_f (args_cons (ev_t rfl) (args_nil)) rfl) (rlist_ok t v D0 _ hk0 (by omega)) ?_
  rintro v14 w14 ⟨hk14, g14⟩
  refine ⟨fun _ => g14, ?_⟩
  have g := g.trans g14
  have hk0 := hk0.grow g14
  replace hk14 := hk14.lt
  generalize hD14 : (fun b => (D0 b ∨ _ ≤ b) ∧ b < w14.heap.size) = D14 at hk14
  have hD14l : ∀ k, D14 k → k < w14.heap.size := fun k h => by rw [← hD14] at h; exact h.2
  obtain ⟨p14, c14, rfl, _, _⟩ := id hk14
  replace B2 := B2.grow (g14)
  replace B3 := B3.grow (g14)
  replace B4 := B4.grow (g14)
  try have hk0 := hk0.grow (g14)
  try have hk14 := hk14.grow (g14)
  try have hdb1 := obj_grow hdb1 (g14)
  try have hdb2 := obj_grow hdb2 (g14)
  try have hkx := hkx.grow (g14)
  refine sr_alloc rfl ze_sl_api_Node rfl ?_
  intro b5 w5 N5
  have x5_2 := N5.ne B2
  have x5_3 := N5.ne B3
  have x5_4 := N5.ne B4
  have l5 := N5.ge g
  have g := g.trans (N5.g)
  replace B2 := B2.grow (N5.g)
  replace B3 := B3.grow (N5.g)
  replace B4 := B4.grow (N5.g)
  try have hk0 := hk0.grow (N5.g)
  try have hk14 := hk14.grow (N5.g)
  try have hdb1 := obj_grow hdb1 (N5.g)
  try have hdb2 := obj_grow hdb2 (N5.g)
  try have hkx := hkx.grow (N5.g)
  have B5 := N5.blk
  refine sr_store_all rfl sz_sl_api_Node (ev_t rfl) (ev_t rfl) rfl rfl B5 rfl rfl ?_
  intro wS2 hgS2 hzS2
  clear B5
  intro B5
  replace B2 := B2.keep hgS2 (by intro h; injection h with h; first | exact x5_2 h.symm | exact x2_5 h | omega)
  replace B3 := B3.keep hgS2 (by intro h; injection h with h; first | exact x5_3 h.symm | exact x3_5 h | omega)
  replace B4 := B4.keep hgS2 (by intro h; injection h with h; first | exact x5_4 h.symm | exact x4_5 h | omega)
  have g := g_only g hgS2 (by intro k hk; injection hk with hk; omega)
  have hk0 := hk0.keep hgS2 (fun b hb _ e => by injection e with e; have := hD0 b hb; omega)
  have hk14 := hk14.keep hgS2 (fun b hb _ e => by injection e with e; have := hD14l b hb; have := N5.at_; omega)
  have hs5 := Nat.le_trans N5.g.size hgS2.size
  refine sr_sub [(2, _, _), (3, _, _), (4, _, _), (5, _, _)] (sub_cons rfl (sub_cons rfl (sub_cons rfl (sub_cons rfl (sub_nil _))))) ?_
  refine sr_nil (hK7 _ _ _ ?_)
  refine scd_seq fun K8 hK8 => ?_
  refine scd_text [1, 2] ?_
  refine sr_alloc rfl ze_int rfl ?_
  intro b6 w6 N6
  have x6_2 := N6.ne B2
  have x6_3 := N6.ne B3
  have x6_4 := N6.ne B4
  have x6_5 := N6.ne B5
  have l6 := N6.ge g
  have g := g.trans (N6.g)
  replace B2 := B2.grow (N6.g)
  replace B3 := B3.grow (N6.g)
  replace B4 := B4.grow (N6.g)
  replace B5 := B5.grow (N6.g)
  try have hk0 := hk0.grow (N6.g)
  try have hk14 := hk14.grow (N6.g)
  try have hdb1 := obj_grow hdb1 (N6.g)
  try have hdb2 := obj_grow hdb2 (N6.g)
  try have hkx := hkx.grow (N6.g)
  have B6 := N6.blk
  refine sr_store_all rfl sz_int (ev_t rfl) ev_c rfl rfl B6 rfl rfl ?_
  intro wS3 hgS3 hzS3
  clear B6
  intro B6
  replace B2 := B2.keep hgS3 (by intro h; injection h with h; first | exact x6_2 h.symm | exact x2_6 h | omega)
  replace B3 := B3.keep hgS3 (by intro h; injection h with h; first | exact x6_3 h.symm | exact x3_6 h | omega)
  replace B4 := B4.keep hgS3 (by intro h; injection h with h; first | exact x6_4 h.symm | exact x4_6 h | omega)
  replace B5 := B5.keep hgS3 (by intro h; injection h with h; first | exact x6_5 h.symm | exact x5_6 h | omega)
  have g := g_only g hgS3 (by intro k hk; injection hk with hk; omega)
  try have hs6 := N6.g.size
  try have hk0 := hk0.keep hgS3 (fun b hb _ e => by injection e with e; have := hD0 b hb; omega)
  try have hk14 := hk14.keep hgS3 (fun b hb _ e => by injection e with e; have := hD14l b hb; have := N6.at_; omega)
  refine sr_nil (hK8 _ _ _ ?_)
  refine scd_seq fun K9 hK9 => ?_
  refine scd_seq fun K10 hK10 => ?_
  refine scd_text [0, 1] ?_
  have hb6l := B6.lt
  have hb5l := B5.lt
  have hb4l := B4.lt
  have hb3l := B3.lt
  have hb2l := B2.lt
  refine sr_rd rfl (rd_loads agg_api_Node (ev_t rfl) rfl (fun _ => B2.row)) ?_
  refine sr_call rfl (rc_call go_syntax_Walk ev_f (args_cons (ev_t rfl) (args_nil)) rfl) (swalk_ok t v D0 _ hk0 (fun k h => by have := hD0 k h; have := g.size; omega) (by omega)) ?_
  rintro v16 w16 ⟨g16, bw, hbw, hbw2, rfl, hit⟩
  refine ⟨fun _ => g16, ?_⟩
  have g := g.trans g16
  have hk0 := hk0.grow g16
  have hk14 := hk14.grow g16
  have hs6l := B6.lt
  replace B2 := B2.grow (g16)
  replace B3 := B3.grow (g16)
  replace B4 := B4.grow (g16)
  replace B5 := B5.grow (g16)
  replace B6 := B6.grow (g16)
  try have hk0 := hk0.grow (g16)
  try have hk14 := hk14.grow (g16)
  try have hdb1 := obj_grow hdb1 (g16)
  try have hdb2 := obj_grow hdb2 (g16)
  try have hkx := hkx.grow (g16)
  have gW := G.refl w16
  refine sr_sub [(2, _, _), (3, _, _), (4, _, _), (5, _, _), (6, _, _), (16, _, _)] (sub_cons rfl (sub_cons rfl (sub_cons rfl (sub_cons rfl (sub_cons rfl (sub_cons rfl (sub_nil _))))))) ?_
  refine sr_nil (hK10 _ _ _ ?_)
  refine scd_block ?_
  refine' scd_range (fs := #[]) (Nb := fun k => D0 k ∨ k = bw) (Bx := fun k => k = b6) (L := listN t) (En := EnN D0) (ev_t rfl) (go_syntax_Walk_1) (hit _ gW) (fun k hk => by rcases hk with hk | hk; (have := hD0 k hk; have := g.size; omega); (have := gW.size; omega)) (fun k hk => ⟨by have := B6.lt; omega, fun h => by rcases h with h | h; (have := hD0 k h; omega); omega⟩) (fun pre A => Blk A b6 ty_int [.int .i64 (pre.length : Nat)] ∧ Blk A b5 ty_sl_api_Node [.slice p14 (listN t).length c14] ∧ Kd A D14 (listN t) (.slice p14 (listN t).length c14)) (fun _ _ _ => False) [] rfl ?hI1 ?hX1 ?hE1 ?hG1 ?h01 ?body1 ?done1 ?stop1
  case hI1 =>
    exact fun pre A C h g => ⟨h.1.gi g, h.2.1.gi g, h.2.2.gi g⟩
  case hX1 =>
    exact fun _ _ _ _ h _ => h.elim
  case hE1 =>
    exact fun x A args h => enN_one h
  case hG1 =>
    exact fun x A C args h g => enN_gi h g
  case h01 =>
    exact ⟨B6, B5, hk14⟩
  case body1 =>
    intro lk pre x v A hI1 hpre hx hsz KK hKK
    have g := G.refl A
    refine scd_text [1, 2] ?_
    obtain ⟨px, cx, hvx, _⟩ := hx
    obtain rfl : v = _ := by simpa using hvx
    refine sr_alloc rfl ze_api_Node rfl ?_
    intro b7 w7 N7
    have l7 := N7.ge g
    have g := g.trans (N7.g)
    try have hk0 := hk0.grow (N7.g)
    try have hk14 := hk14.grow (N7.g)
    try have hdb1 := obj_grow hdb1 (N7.g)
    try have hdb2 := obj_grow hdb2 (N7.g)
    try have hkx := hkx.grow (N7.g)
    have B7 := N7.blk
    refine sr_store_all rfl sz_api_Node (ev_t rfl) (ev_t rfl) rfl rfl B7 rfl rfl ?_
    intro wS4 hgS4 hzS4
    clear B7
    intro B7
    have g := g_only g hgS4 (by intro k hk; injection hk with hk; omega)
    refine sr_sub [(4, _, _), (5, _, _), (6, _, _), (7, _, _)] (sub_cons rfl (sub_cons rfl (sub_cons rfl (sub_cons rfl (sub_nil _))))) ?_
    refine sr_sub [(4, _, _), (5, _, _), (6, _, _), (7, _, _)] (sub_cons rfl (sub_cons rfl (sub_cons rfl (sub_cons rfl (sub_nil _))))) ?_
    refine sr_nil (hKK _ _ g ?_)
    intro C hgC hI1 hx
    replace B7 := B7.gi hgC
    have g := GB.refl (fun k => k = b6) C
    obtain ⟨B6, B5, hk14⟩ := hI1
    obtain ⟨hpl, hpx⟩ := pre_get hpre
    have hle : pre.length + 1 ≤ 300 := by have := hpre.length_le; rw [listN_length] at this; simp at this; omega
    obtain ⟨px2, cx2, hvx2, hkx⟩ := hx
    have hq := hvx2
    simp [ndCells] at hq
    obtain ⟨rfl, rfl⟩ := hq
    have hkl : kidAt (ndT 0 [] (listN t)) pre.length = x := by rw [kidAt_eq hpl]; exact hpx
    have hcx := listN_mem t x (hpx ▸ List.getElem_mem hpl)
    refine scd_block ?_
    refine scd_seq fun K11 hK11 => ?_
    refine scd_seq fun K12 hK12 => ?_
    refine scd_draw [0, 0, 3, 3, 3, 0, 0, 0, 3, 0, 1, 3, 3] [true, true, true, true, true, true, true, true, true, true, true, true, true] [0, 0, 2, 7, 15, 31, 31, 31, 223, 479, 1023, 2047, 4095] mix (by kernel_rfl) ?_
    have g := g.trans (GB.of_g (G.drew _))
    replace B7 := B7.grow (G.drew _)
    replace B5 := B5.grow (G.drew _)
    replace B6 := B6.grow (G.drew _)
    try have hk0 := hk0.grow (G.drew _)
    try have hk14 := hk14.grow (G.drew _)
    try have hdb1 := obj_grow hdb1 (G.drew _)
    try have hdb2 := obj_grow hdb2 (G.drew _)
    try have hkx := hkx.grow (G.drew _)
    obtain ⟨hpe, pI, cI, hcell, hkid⟩ := kd_opt (t := ndT 0 [] (listN t)) hk14 hpl
    rw [hkl] at hcell hkid
    refine sr_rd rfl (rd_load one_int (ev_t rfl) (fun _ => B6.at_ rfl)) ?_
    refine sr_rd rfl (rd_load one_sl_api_Node (ev_t rfl) (fun _ => B5.at_ rfl)) ?_
    refine sr_pu rfl (fun _ => rd_len el_sl_api_Node (ev_t rfl)) ?_
    refine sr_pu rfl (fun _ => rd_ge (ev_t rfl) (ev_t rfl)) ?_
    refine sr_pu rfl (fun _ => rd_move (ev_t rfl)) ?_
    refine sr_rdg rfl rfl rfl (rd_loads agg_api_Node (ev_t rfl) rfl (fun _ => B7.row)) ?_
    refine sr_rdg rfl rfl rfl (rd_load one_sl_api_Node (ev_t rfl) (fun _ => B5.at_ rfl)) ?_
    refine sr_rdg rfl rfl rfl (rd_load one_int (ev_t rfl) (fun _ => B6.at_ rfl)) ?_
    refine sr_pug rfl rfl rfl (fun _ => rd_idxq el_sl_api_Node (ev_u rfl id) (ev_u rfl id) (fun _ => by omega) (fun _ => hpe)) ?_
    refine sr_rdg rfl rfl rfl (rd_loads agg_api_Node (ev_u rfl id) rfl (fun _ => hcell)) ?_
    refine sr_pureg rfl rfl rfl (fun _ => (rc_call go_r03_Same ev_f (args_cons (ev_u rfl id) (args_cons (ev_u rfl id) (args_nil))) rfl)) (fun hc => rsame_ok x _ D0 x _ D14 _ hkx hkid (by omega)) (fun w28 g28 => ?_)
    have g := g.trans (GB.of_g (g28))
    replace B7 := B7.grow (g28)
    replace B5 := B5.grow (g28)
    replace B6 := B6.grow (g28)
    try have hk0 := hk0.grow (g28)
    try have hk14 := hk14.grow (g28)
    try have hdb1 := obj_grow hdb1 (g28)
    try have hdb2 := obj_grow hdb2 (g28)
    try have hkx := hkx.grow (g28)
    refine sr_pug rfl rfl rfl (fun _ => rd_not (ev_u rfl id)) ?_
    refine sr_pu rfl (fun _ => rd_pick_or (ev_t rfl) (ev_u rfl id)) ?_
    refine sr_sub [(4, _, _), (6, _, _), (30, _, _)] (sub_cons rfl (sub_cons rfl (sub_cons rfl (sub_nil _)))) ?_
    refine sr_nil (hK12 _ _ _ ?_)
    refine scd_cond (ev_t rfl) (fun h3 => ?_) (fun h3 => ?_)
    · exfalso; rw [smB_refl] at h3; simp at h3; omega
      done
    (try simp only [bsimp] at h3)
    refine scd_skip (hK11 _ _ _ ?_)
    refine scd_sub [(4, _, _), (6, _, _)] (sub_cons rfl (sub_cons rfl (sub_nil _))) ?_
    refine scd_text [0, 3, 2] ?_
    refine sr_rd rfl (rd_load one_int (ev_t rfl) (fun _ => B6.at_ rfl)) ?_
    refine sr_pu rfl (fun _ => rd_add (ev_t rfl) ev_c (fun _ => by omega)) ?_
    refine sr_store_all rfl sz_int (ev_t rfl) (ev_t rfl) rfl rfl B6 rfl rfl ?_
    intro wS5 hgS5 hzS5
    clear B6
    intro B6
    replace B7 := B7.keep hgS5 (by intro h; injection h with h; first | exact x6_7 h.symm | exact x7_6 h | omega)
    replace B5 := B5.keep hgS5 (by intro h; injection h with h; first | exact x6_5 h.symm | exact x5_6 h | omega)
    have g := gb_only g hgS5 (by first | exact .inl (by simp) | exact .inr (by omega))
    try have hs6 := N6.g.size
    try have hk0 := hk0.keep hgS5 (fun b hb _ e => by injection e with e; have := hD0 b hb; omega)
    try have hk14 := hk14.keep hgS5 (fun b hb _ e => by injection e with e; have := hD14l b hb; have := N6.at_; omega)
    refine sr_sub [(4, _, _)] (sub_cons rfl (sub_nil _)) ?_
    refine sr_nil (fun a ha => ⟨rfl, ?_⟩)
    exact ⟨g, by simpa using B6, B5, hk14⟩
  case done1 =>
    intro db1 W1 hI1 hge1 hdb1 hgb1
    have hwd := Nat.le_trans g.size hge1
    have hn1 : db1 ≠ b4 := by have := B4.lt; omega
    replace B2 := B2.gb hgb1 (fun h => by omega)
    replace B3 := B3.gb hgb1 (fun h => by omega)
    replace B4 := B4.gb hgb1 (fun h => by omega)
    have hk0 := hk0.gb hgb1 (fun b hb h => by have := hD0 b hb; omega)
    obtain ⟨B6, B5, hk14⟩ := hI1
    have g := g_gb g hgb1 (fun k hk => by subst hk; omega)
    refine id (hK9 _ _ _ ?_)
    refine scd_sub [(2, _, _), (3, _, _), (4, _, _), (5, _, _), (6, _, _)] (sub_cons rfl (sub_cons rfl (sub_cons rfl (sub_cons rfl (sub_cons rfl (sub_nil _)))))) ?_
    refine scd_seq fun K13 hK13 => ?_
    refine scd_seq fun K14 hK14 => ?_
    refine scd_draw [0, 0, 3, 3, 3, 0, 0, 1, 3, 3] [true, true, true, true, true, true, true, true, true, true] [0, 0, 2, 7, 15, 31, 31, 95, 255, 511] mix (by kernel_rfl) ?_
    have g := g.trans (G.drew _)
    replace B2 := B2.grow (G.drew _)
    replace B3 := B3.grow (G.drew _)
    replace B4 := B4.grow (G.drew _)
    replace B5 := B5.grow (G.drew _)
    replace B6 := B6.grow (G.drew _)
    try have hk0 := hk0.grow (G.drew _)
    try have hk14 := hk14.grow (G.drew _)
    try have hdb1 := obj_grow hdb1 (G.drew _)
    try have hdb2 := obj_grow hdb2 (G.drew _)
    try have hkx := hkx.grow (G.drew _)
    refine sr_rd rfl (rd_load one_int (ev_t rfl) (fun _ => B6.at_ rfl)) ?_
    refine sr_rd rfl (rd_load one_sl_api_Node (ev_t rfl) (fun _ => B5.at_ rfl)) ?_
    refine sr_pu rfl (fun _ => rd_len el_sl_api_Node (ev_t rfl)) ?_
    refine sr_pu rfl (fun _ => rd_ne (ev_t rfl) (ev_t rfl)) ?_
    refine sr_pu rfl (fun _ => rd_move (ev_t rfl)) ?_
    refine sr_rdg rfl rfl rfl (rd_load one_int (ev_t rfl) (fun _ => B6.at_ rfl)) ?_
    refine sr_rdg rfl rfl rfl (rd_loads agg_api_Node (ev_t rfl) rfl (fun _ => B2.row)) ?_
    refine sr_pureg rfl rfl rfl (fun _ => (rc_call go_syntax_Count ev_f (args_cons (ev_u rfl id) (args_nil)) rfl)) (fun hc => scount_ok t v D0 _ hk0 (by omega)) (fun w40 g40 => ?_)
    have g := g.trans (g40)
    replace B2 := B2.grow (g40)
    replace B3 := B3.grow (g40)
    replace B4 := B4.grow (g40)
    replace B5 := B5.grow (g40)
    replace B6 := B6.grow (g40)
    try have hk0 := hk0.grow (g40)
    try have hk14 := hk14.grow (g40)
    try have hdb1 := obj_grow hdb1 (g40)
    try have hdb2 := obj_grow hdb2 (g40)
    try have hkx := hkx.grow (g40)
    refine sr_pug rfl rfl rfl (fun _ => rd_ne (ev_u rfl id) (ev_u rfl id)) ?_
    refine sr_pu rfl (fun _ => rd_pick_or (ev_t rfl) (ev_u rfl id)) ?_
    refine sr_nil (hK14 _ _ _ ?_)
    refine scd_cond (ev_t rfl) (fun h4 => ?_) (fun h4 => ?_)
    · exfalso; rw [listN_length] at h4; simp at h4
      done
    (try simp only [bsimp] at h4)
    refine scd_skip (hK13 _ _ _ ?_)
    refine scd_seq fun K15 hK15 => ?_
    refine scd_text [1, 2] ?_
    have hd1l := (Array.getElem?_eq_some_iff.1 hdb1).1
    refine sr_alloc rfl ze_int rfl ?_
    intro b8 w8 N8
    have x8_2 := N8.ne B2
    have x8_3 := N8.ne B3
    have x8_4 := N8.ne B4
    have x8_5 := N8.ne B5
    have x8_6 := N8.ne B6
    have l8 := N8.ge g
    have g := g.trans (N8.g)
    replace B2 := B2.grow (N8.g)
    replace B3 := B3.grow (N8.g)
    replace B4 := B4.grow (N8.g)
    replace B5 := B5.grow (N8.g)
    replace B6 := B6.grow (N8.g)
    try have hk0 := hk0.grow (N8.g)
    try have hk14 := hk14.grow (N8.g)
    try have hdb1 := obj_grow hdb1 (N8.g)
    try have hdb2 := obj_grow hdb2 (N8.g)
    try have hkx := hkx.grow (N8.g)
    have B8 := N8.blk
    refine sr_store_all rfl sz_int (ev_t rfl) ev_c rfl rfl B8 rfl rfl ?_
    intro wS6 hgS6 hzS6
    clear B8
    intro B8
    replace B2 := B2.keep hgS6 (by intro h; injection h with h; first | exact x8_2 h.symm | exact x2_8 h | omega)
    replace B3 := B3.keep hgS6 (by intro h; injection h with h; first | exact x8_3 h.symm | exact x3_8 h | omega)
    replace B4 := B4.keep hgS6 (by intro h; injection h with h; first | exact x8_4 h.symm | exact x4_8 h | omega)
    replace B5 := B5.keep hgS6 (by intro h; injection h with h; first | exact x8_5 h.symm | exact x5_8 h | omega)
    replace B6 := B6.keep hgS6 (by intro h; injection h with h; first | exact x8_6 h.symm | exact x6_8 h | omega)
    have g := g_only g hgS6 (by intro k hk; injection hk with hk; omega)
    try have hk0 := hk0.keep hgS6 (fun b hb _ e => by injection e with e; have := hD0 b hb; omega)
    try have hd18 : db1 ≠ b8 := by have := N8.at_; omega
    try have hdb1 := obj_only hdb1 hgS6 hd18
    refine sr_nil (hK15 _ _ _ ?_)
    refine scd_sub [(2, _, _), (3, _, _), (4, _, _), (5, _, _), (6, _, _), (8, _, _), (33, _, _), (34, _, _), (35, _, _), (36, _, _), (37, _, _), (38, _, _), (39, _, _), (40, _, _), (41, _, _), (42, _, _)] (sub_cons rfl (sub_cons rfl (sub_cons rfl (sub_cons rfl (sub_cons rfl (sub_cons rfl (sub_cons rfl (sub_cons rfl (sub_cons rfl (sub_cons rfl (sub_cons rfl (sub_cons rfl (sub_cons rfl (sub_cons rfl (sub_cons rfl (sub_cons rfl (sub_nil _))))))))))))))))) ?_
    refine scd_seq fun K16 hK16 => ?_
    refine scd_seq fun K17 hK17 => ?_
    refine scd_text [0, 1] ?_
    have hb8l := B8.lt
    refine sr_rd rfl (rd_loads agg_api_Node (ev_t rfl) rfl (fun _ => B2.row)) ?_
    refine sr_call rfl (rc_call go_syntax_Walk ev_f (args_cons (ev_t rfl) (args_nil)) rfl) (swalk_ok t v D0 _ hk0 (fun k h => by have := hD0 k h; have := g.size; omega) (by omega)) ?_
    rintro v44 w44 ⟨g44, bx, hbx, hbx2, rfl, hit2⟩
    refine ⟨fun _ => g44, ?_⟩
    have g := g.trans g44
    have hk0 := hk0.grow g44
    have hdb1 := obj_grow hdb1 g44
    replace B2 := B2.grow (g44)
    replace B3 := B3.grow (g44)
    replace B4 := B4.grow (g44)
    replace B5 := B5.grow (g44)
    replace B6 := B6.grow (g44)
    replace B8 := B8.grow (g44)
    try have hk0 := hk0.grow (g44)
    try have hk14 := hk14.grow (g44)
    try have hdb1 := obj_grow hdb1 (g44)
    try have hdb2 := obj_grow hdb2 (g44)
    try have hkx := hkx.grow (g44)
    have gX := G.refl w44
    refine sr_nil (hK17 _ _ _ ?_)
    refine scd_block ?_
    refine' scd_range (fs := #[]) (Nb := fun k => D0 k ∨ k = bx) (Bx := fun k => k = b8) (L := listN t) (En := EnN D0) (ev_t rfl) (go_syntax_Walk_1) (hit2 _ gX) (fun k hk => by rcases hk with hk | hk; (have := hD0 k hk; have := g.size; omega); (have := gX.size; omega)) (fun k hk => ⟨by have := B8.lt; omega, fun h => by rcases h with h | h; (have := hD0 k h; omega); (have := l8; omega)⟩) (fun pre A => Blk A b8 ty_int [.int .i64 (pre.length : Nat)] ∧ Blk A b3 ty_uint8 [.int .u8 z] ∧ pre.length ≤ z) (fun c pre A => c = .exit 2 ∧ Blk A b8 ty_int [.int .i64 (pre.length : Nat)] ∧ pre.length = z + 1) [2] rfl ?hI2 ?hX2 ?hE2 ?hG2 ?h02 ?body2 ?done2 ?stop2
    case hI2 =>
      exact fun pre A C h g => ⟨h.1.gi g, h.2.1.gi g, h.2.2⟩
    case hX2 =>
      exact fun c pre A C h g => ⟨h.1, h.2.1.gi g, h.2.2⟩
    case hE2 =>
      exact fun x A args h => enN_one h
    case hG2 =>
      exact fun x A C args h g => enN_gi h g
    case h02 =>
      exact ⟨B8, B3, Nat.zero_le _⟩
    case body2 =>
      intro lk pre x v A hI2 hpre hx hsz KK hKK
      have g := G.refl A
      refine scd_sub [(3, _, _), (8, _, _)] (sub_cons rfl (sub_cons rfl (sub_nil _))) ?_
      refine scd_skip (hKK _ _ g ?_)
      intro C hgC hI2 hx
      have g := GB.refl (fun k => k = b8) C
      obtain ⟨B8, B3, hpz⟩ := hI2
      refine scd_block ?_
      refine scd_seq fun K18 hK18 => ?_
      refine scd_text [0, 3, 2] ?_
      refine sr_rd rfl (rd_load one_int (ev_t rfl) (fun _ => B8.at_ rfl)) ?_
      refine sr_pu rfl (fun _ => rd_add (ev_t rfl) ev_c (fun _ => by omega)) ?_
      refine sr_store_all rfl sz_int (ev_t rfl) (ev_t rfl) rfl rfl B8 rfl rfl ?_
      intro wS7 hgS7 hzS7
      clear B8
      intro B8
      replace B3 := B3.keep hgS7 (by intro h; injection h with h; first | exact x8_3 h.symm | exact x3_8 h | omega)
      have g := gb_only g hgS7 (by first | exact .inl (by simp) | exact .inr (by omega))
      try have hk0 := hk0.keep hgS7 (fun b hb _ e => by injection e with e; have := hD0 b hb; omega)
      try have hd18 : db1 ≠ b8 := by have := N8.at_; omega
      try have hdb1 := obj_only hdb1 hgS7 hd18
      refine sr_sub [(3, _, _), (8, _, _)] (sub_cons rfl (sub_cons rfl (sub_nil _))) ?_
      refine sr_nil (hK18 _ _ _ ?_)
      refine scd_seq fun K19 hK19 => ?_
      refine scd_text [0, 0, 3, 3] ?_
      refine sr_rd rfl (rd_load one_int (ev_t rfl) (fun _ => B8.at_ rfl)) ?_
      refine sr_rd rfl (rd_load one_uint8 (ev_t rfl) (fun _ => B3.at_ rfl)) ?_
      refine sr_pu rfl (fun _ => rd_convr (r := (z : Int)) ik_uint8 ik_int (ev_t rfl) (fun hc => i64_id ⟨by omega, by omega⟩)) ?_
      refine sr_pu rfl (fun _ => rd_gt (ev_t rfl) (ev_t rfl)) ?_
      refine sr_sub [(51, _, _)] (sub_cons rfl (sub_nil _)) ?_
      refine sr_nil (hK19 _ _ _ ?_)
      refine scd_cond (ev_t rfl) (fun h5 => ?_) (fun h5 => ?_)
      · (try simp only [bsimp] at h5)
        refine scd_exit rfl (fun a ha => ⟨rfl, ?_⟩)
        exact ⟨g, rfl, by simpa using B8, by simp at h5 ⊢; omega⟩
      (try simp only [bsimp] at h5)
      refine scd_skip (fun a ha => ⟨rfl, ?_⟩)
      exact ⟨g, by simpa using B8, B3, by simp at h5 ⊢; omega⟩
    case done2 =>
      intro db2 W2 hI2 hge2 hdb2 hgb2
      have hwd2 := Nat.le_trans g.size hge2
      have hn2 : db2 ≠ b4 := by have := B4.lt; omega
      have hdd : db1 ≠ db2 := by have := (Array.getElem?_eq_some_iff.1 hdb1).1; omega
      have hdb1 := (hgb2.block db1 (Array.getElem?_eq_some_iff.1 hdb1).1 hd18).trans hdb1
      replace B2 := B2.gb hgb2 (fun h => x8_2 h.symm)
      replace B3 := B3.gb hgb2 (fun h => x8_3 h.symm)
      replace B4 := B4.gb hgb2 (fun h => x8_4 h.symm)
      replace B5 := B5.gb hgb2 (fun h => x8_5 h.symm)
      obtain ⟨B8, _, hpz⟩ := hI2
      have g := g_gb g hgb2 (fun k hk => by subst hk; omega)
      refine id (hK16 _ _ _ ?_)
      refine scd_seq fun K20 hK20 => ?_
      refine scd_text [0, 0, 3, 3, 0, 3, 3, 3, 2] ?_
      refine sr_rd rfl (rd_load one_int (ev_t rfl) (fun _ => B8.at_ rfl)) ?_
      refine sr_rd rfl (rd_load one_uint8 (ev_t rfl) (fun _ => B3.at_ rfl)) ?_
      refine sr_pu rfl (fun _ => rd_convr (r := (z : Int)) ik_uint8 ik_int (ev_t rfl) (fun hc => i64_id ⟨by omega, by omega⟩)) ?_
      refine sr_pu rfl (fun _ => rd_add (ev_t rfl) ev_c (fun _ => by omega)) ?_
      refine sr_rd rfl (rd_load one_sl_api_Node (ev_t rfl) (fun _ => B5.at_ rfl)) ?_
      refine sr_pu rfl (fun _ => rd_len el_sl_api_Node (ev_t rfl)) ?_
      refine sr_pu rfl (fun _ => rd_min (ev_t rfl) (ev_t rfl)) ?_
      refine sr_pu rfl (fun _ => rd_eq (ev_t rfl) (ev_t rfl)) ?_
      refine sr_store_all rfl sz_bool (ev_t rfl) (ev_t rfl) rfl rfl B4 rfl rfl ?_
      intro wS8 hgS8 hzS8
      clear B4
      intro B4
      replace B2 := B2.keep hgS8 (by intro h; injection h with h; first | exact x4_2 h.symm | exact x2_4 h | omega)
      replace B3 := B3.keep hgS8 (by intro h; injection h with h; first | exact x4_3 h.symm | exact x3_4 h | omega)
      replace B5 := B5.keep hgS8 (by intro h; injection h with h; first | exact x4_5 h.symm | exact x5_4 h | omega)
      replace B8 := B8.keep hgS8 (by intro h; injection h with h; first | exact x4_8 h.symm | exact x8_4 h | omega)
      have g := g_only g hgS8 (by intro k hk; injection hk with hk; omega)
      try have hk0 := hk0.keep hgS8 (fun b hb _ e => by injection e with e; have := hD0 b hb; omega)
      try have hdb1 := obj_only hdb1 hgS8 hn1
      try have hdb2 := obj_only hdb2 hgS8 hn2
      refine sr_nil (hK20 _ _ _ ?_)
      refine scd_ret (?_)
      refine td_mark hdb2 ?_
      have hgi2 := gi_putObj (.deferred none) hdb2 rfl hwd2
      replace hdb1 := (World.putObj_heap_other (o := .deferred none) hdd).trans hdb1
      refine td_mark hdb1 ?_
      have hgi1 := gi_putObj (.deferred none) hdb1 rfl hwd
      replace B4 := (B4.gi hgi2).gi hgi1
      have g := g_gi (g_gi g hgi2 (Nat.le_refl _)) hgi1 (Nat.le_refl _)
      refine td_ret (t_retv1 rfl (evr_c1 rfl one_bool (by first | exact B2.at_ rfl | exact B3.at_ rfl | exact B4.at_ rfl | exact B5.at_ rfl | exact B8.at_ rfl) (evr_nil)) ?_)
      refine ⟨congrArg Value.bool ?_, g⟩
      rw [listN_length] at *; simp; omega
    case stop2 =>
      intro db2 c2 pre x W2 hI2 hpre hge2 hdb2 hgb2
      have hwd2 := Nat.le_trans g.size hge2
      have hn2 : db2 ≠ b4 := by have := B4.lt; omega
      have hdd : db1 ≠ db2 := by have := (Array.getElem?_eq_some_iff.1 hdb1).1; omega
      have hdb1 := (hgb2.block db1 (Array.getElem?_eq_some_iff.1 hdb1).1 hd18).trans hdb1
      replace B2 := B2.gb hgb2 (fun h => x8_2 h.symm)
      replace B3 := B3.gb hgb2 (fun h => x8_3 h.symm)
      replace B4 := B4.gb hgb2 (fun h => x8_4 h.symm)
      replace B5 := B5.gb hgb2 (fun h => x8_5 h.symm)
      obtain ⟨rfl, B8, hpz⟩ := hI2
      have hll := hpre.length_le
      have g := g_gb g hgb2 (fun k hk => by subst hk; omega)
      refine scd_exit rfl (hK16 _ _ _ ?_)
      refine scd_seq fun K21 hK21 => ?_
      refine scd_text [0, 0, 3, 3, 0, 3, 3, 3, 2] ?_
      refine sr_rd rfl (rd_load one_int (ev_t rfl) (fun _ => B8.at_ rfl)) ?_
      refine sr_rd rfl (rd_load one_uint8 (ev_t rfl) (fun _ => B3.at_ rfl)) ?_
      refine sr_pu rfl (fun _ => rd_convr (r := (z : Int)) ik_uint8 ik_int (ev_t rfl) (fun hc => i64_id ⟨by omega, by omega⟩)) ?_
      refine sr_pu rfl (fun _ => rd_add (ev_t rfl) ev_c (fun _ => by omega)) ?_
      refine sr_rd rfl (rd_load one_sl_api_Node (ev_t rfl) (fun _ => B5.at_ rfl)) ?_
      refine sr_pu rfl (fun _ => rd_len el_sl_api_Node (ev_t rfl)) ?_
      refine sr_pu rfl (fun _ => rd_min (ev_t rfl) (ev_t rfl)) ?_
      refine sr_pu rfl (fun _ => rd_eq (ev_t rfl) (ev_t rfl)) ?_
      refine sr_store_all rfl sz_bool (ev_t rfl) (ev_t rfl) rfl rfl B4 rfl rfl ?_
      intro wS9 hgS9 hzS9
      clear B4
      intro B4
      replace B2 := B2.keep hgS9 (by intro h; injection h with h; first | exact x4_2 h.symm | exact x2_4 h | omega)
      replace B3 := B3.keep hgS9 (by intro h; injection h with h; first | exact x4_3 h.symm | exact x3_4 h | omega)
      replace B5 := B5.keep hgS9 (by intro h; injection h with h; first | exact x4_5 h.symm | exact x5_4 h | omega)
      replace B8 := B8.keep hgS9 (by intro h; injection h with h; first | exact x4_8 h.symm | exact x8_4 h | omega)
      have g := g_only g hgS9 (by intro k hk; injection hk with hk; omega)
      try have hk0 := hk0.keep hgS9 (fun b hb _ e => by injection e with e; have := hD0 b hb; omega)
      try have hdb1 := obj_only hdb1 hgS9 hn1
      try have hdb2 := obj_only hdb2 hgS9 hn2
      refine sr_nil (hK21 _ _ _ ?_)
      refine scd_ret (?_)
      refine td_mark hdb2 ?_
      have hgi2 := gi_putObj (.deferred none) hdb2 rfl hwd2
      replace hdb1 := (World.putObj_heap_other (o := .deferred none) hdd).trans hdb1
      refine td_mark hdb1 ?_
      have hgi1 := gi_putObj (.deferred none) hdb1 rfl hwd
      replace B4 := (B4.gi hgi2).gi hgi1
      have g := g_gi (g_gi g hgi2 (Nat.le_refl _)) hgi1 (Nat.le_refl _)
      refine td_ret (t_retv1 rfl (evr_c1 rfl one_bool (by first | exact B2.at_ rfl | exact B3.at_ rfl | exact B4.at_ rfl | exact B5.at_ rfl | exact B8.at_ rfl) (evr_nil)) ?_)
      refine ⟨congrArg Value.bool ?_, g⟩
      rw [listN_length] at *; simp at *; omega
  case stop1 =>
    intro db1 c1 pre x W1 hI1 hpre hge1 hdb1 hgb1
    exact hI1.elim
theorem swalk_lawI (t : Nd) (v : Value) (z : Int) (D : Nat → Prop) (w : World) (hL : Laid w) (hb3 : 4 ≤ w.heap.size) (hT : TabP w) (hk : Kd w D t.kids v) (hc : count t ≤ 1048576) (hz : 0 ≤ z ∧ z ≤ 255) : Ret PP fn_l03_SyntaxWalk #[ndV t v, .int .u8 z] w fun r w' => r = .bool true ∧ G w w' := by
  obtain ⟨n, rfl⟩ := Int.eq_ofNat_of_zero_le hz.1
  exact swalk_law t v n D w hL hb3 hT hk hc (by omega)
theorem u8_of_wf {z : Int} (h : (Lit.int .u8 z).wf = true) : 0 ≤ z ∧ z ≤ 255 := by
  simp only [Lit.wf, Bool.and_eq_true, decide_eq_true_eq] at h
  exact h
end Go.Rk
namespace Go.Rk
open Go Go.RowKit Go.ChangeShapes Go.WideShapes Go.ChangeAt
/-- An array of strings that reads as a list of texts holds them. -/
theorem cells_of_strs {H : Type} {enc : TypeId × Value → H} {P : Program} {w : World} {base : Nat} {sp : Nat → Bool} {held : Bool} {fuel : Nat} {t e : TypeId} {n : Nat} {cs : List Value} {ls : List (List UInt8)} {p : List MemPlace}
    (ht : P.underlying t = some (.array n e)) (he : P.underlying e = some .string) (hce : P.cellsOf e = 1) (hct : P.cellsOf t = n)
    (h : DataW.trod enc P w base sp held fuel t cs = some (.agg (ls.map fun l => .lit (.string l)), p)) : cs = ls.map Str := by
  cases fuel with
  | zero => simp [DataW.trod] at h
  | succ fuel =>
    simp only [DataW.trod, ht, hce, hct, Nat.mul_one] at h
    split at h
    · rename_i hl
      obtain ⟨xs, hm, hx⟩ := Option.map_eq_some_iff.1 h
      have hxs : xs.map (·.1) = ls.map fun l => (DataW.lit (.string l) : DataW H) := by
        have := congrArg Prod.fst hx
        simpa using this
      have hxl : xs.length = n := by simpa using Lib.mapM_length hm
      have hzl : ls.length = n := by
        have := congrArg List.length hxs
        simp at this
        omega
      apply List.ext_getElem?
      intro i
      by_cases hi : i < n
      · obtain ⟨b, hb, hf⟩ := Lib.mapM_at hm i i (by simp [hi])
        obtain ⟨s, hc, rfl, _⟩ := DataW.trod_string he hf
        have h1 : cs[i]? = some (.string s) := by
          have := congrArg (·[0]?) hc
          simpa [List.getElem?_take, List.getElem?_drop] using this
        have h2 : (xs.map (·.1))[i]? = some (DataW.lit (.string s.data.toList) : DataW H) := by simp [hb]
        rw [hxs] at h2
        simp only [List.getElem?_map, Option.map_eq_some_iff, DataW.lit.injEq, Lit.string.injEq] at h2
        obtain ⟨z', hz', e⟩ := h2
        rw [h1]
        simp [hz', e]
      · rw [List.getElem?_eq_none (by omega), List.getElem?_eq_none (by simp; omega)]
    · cases h
theorem laid_of {P : Program} {x : String × DataW Unit} {r : List (String × DataW Unit)} {W : World} {g : Nat} {t : TypeId} (h : laidMet P (x :: r) W) (hg : P.globalNamed x.1 = some g) (ht : (P.globals[g]?).map (·.type) = some t) :
    ∃ cs fuel p, W.var? P x.1 = some cs ∧ DataW.trod (fun _ => ()) P W 0 (fun _ => true) false fuel t cs.toList = some (x.2, p) := by
  obtain ⟨n, d⟩ := x
  obtain ⟨ps, ⟨g', t', cs, fuel, p, q, hg', ht', hvar, hd, _, _⟩, _⟩ := h
  obtain rfl := Option.some.inj (hg.symm.trans hg')
  obtain rfl := Option.some.inj (ht.symm.trans ht')
  exact ⟨cs, fuel, p, hvar, hd⟩
abbrev laidL : List (String × DataW Unit) := Go.Proofs.YtheifopckahdiaaDoor.Rows.foldValueRow.laid
theorem laid_cells {W : World} (h : laidMetH PP laidL W) : Laid W := by
  have h0 : laidMet PP laidL W := h
  obtain ⟨cs, fuel, p, hv, hd⟩ := laid_of h0.tail.tail.tail.tail.tail (g := 0) (t := 113) (by kernel_rfl) (by kernel_rfl)
  have hc : cs.toList = opsL.map Str := cells_of_strs (n := 27) (e := 9) (by kernel_rfl) (by kernel_rfl) (by kernel_rfl) (by kernel_rfl) hd
  obtain ⟨cs2, fuel2, p2, hv2, hd2⟩ := laid_of h0.tail.tail.tail (g := 3) (t := 76) (by kernel_rfl) (by kernel_rfl)
  obtain ⟨ms, hms⟩ : ∃ ms, PP.underlying 76 = some (.interface ms) := Go.underlying_of_isIface if_error
  obtain ⟨f', u, v, hc2, _⟩ := iface_of_trod hms hd2
  refine ⟨fun j v hj => ?_, ?_⟩
  · have := World.var?_cell (by kernel_rfl : PP.globalNamed _ = some 0) hv j
    rw [Nat.zero_add, this, ← hj, ← hc]; simp
  · have := World.var?_cell (by kernel_rfl : PP.globalNamed _ = some 3) hv2 0
    refine ⟨.iface u v, ?_, .inr ⟨_, _, rfl⟩⟩
    rw [this, ← Array.getElem?_toList, hc2]; rfl
theorem laid_size {W : World} (h : Laid W) : 4 ≤ W.heap.size := by
  obtain ⟨ev, h1, _⟩ := h.err
  exact World.block_lt_of_cell? W _ h1
end Go.Rk
namespace Go.Proofs.YtheifopckahdiaaDoor
open Go Go.RowKit Go.ChangeShapes Go.WideShapes Go.ChangeAt Go.Rk
theorem own : ownKnob Tryd.prog.godebug = none := by kernel_rfl
def cellOf : DataW Unit → Value
  | .lit (.int k z) => .int k z
  | .lit (.string s) => .string ⟨s.toArray⟩
  | _ => .nilIface
def cellsOf : DataW Unit → Array Value
  | .agg l => (l.map cellOf).toArray
  | _ => #[]
def textOf : DataW Unit → Value
  | .iface _ (.ptr (.agg [d])) => cellOf d
  | _ => .nilIface
def put (h : Array Obj) (g : Nat) (cs : Array Value) : Array Obj := h.modify g fun
  | .cells _ t frozen => .cells cs t frozen
  | o => o
/-- A world that holds what the rows list. -/
noncomputable def laidWorld (os : Os) : World :=
  let N := (World.settled Tryd.prog os).heap.size
  let w0 := World.holding Tryd.prog os ⟨#[.cells #[textOf Rows.laid_strconv_ErrSyntax] 143, .cells #[textOf Rows.laid_strconv_ErrRange] 143], #[], []⟩
  let h0 := put w0.heap 0 (cellsOf Rows.laid_interleave_scan_operators)
  let h1 := put h0 1 (cellsOf Rows.laid_internal_strconv_uint64pow10)
  let h2 := put h1 2 #[.iface 141 (.pointer (some ⟨N, 0, none⟩))]
  let h3 := put h2 3 #[.iface 141 (.pointer (some ⟨N + 1, 0, none⟩))]
  let h4 := put h3 4 (cellsOf Rows.laid_math_bits_deBruijn32tab)
  let h5 := put h4 5 (cellsOf Rows.laid_math_bits_deBruijn64tab)
  { w0 with heap := h5 }
end Go.Proofs.YtheifopckahdiaaDoor
