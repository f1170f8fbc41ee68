/- Merged texts of one road: FldB, Rtd. Conditions: each text's own. -/
import Derived.Test.YteicjpedahoilaaGreatDoorA10
import Derived.Test.YteicjpedahoilaaGreatDoorA05
set_option linter.unusedSimpArgs false
set_option linter.unusedVariables false
namespace Go.Rk
open Go Go.RowKit
@[reducible] def retC (x : Cst × Bool) : Value := .tuple #[.int .i64 x.1.2, .bool x.1.1, .bool x.2]
def arF (op : List UInt8) (a b : Int) : Cst × Bool :=
  bif decide (op = [43]) then nmC (IntKind.i64.wrap (a + b))
  else bif decide (op = [45]) then nmC (IntKind.i64.wrap (a - b))
  else bif decide (op = [42]) then nmC (IntKind.i64.wrap (a * b))
  else bif anyS [[47], [37]] op then (bif decide (b = 0) then zc else bif decide (op = [47]) then nmC (IntKind.i64.wrap (a.tdiv b)) else nmC (a.tmod b))
  else bif decide (op = [60]) then trC (decide (a < b))
  else bif decide (op = [60, 61]) then trC (decide (a ≤ b))
  else bif decide (op = [62]) then trC (decide (b < a))
  else bif decide (op = [62, 61]) then trC (decide (b ≤ a))
  else bif decide (op = [61, 61]) then trC (decide (a = b))
  else bif decide (op = [33, 61]) then trC (!decide (a = b))
  else zc
def loP (op : List UInt8) (a b : Int) : Int × Bool :=
  bif decide (op = [38, 38]) then (IntKind.i64.wrap (a * b), true)
  else bif decide (op = [124, 124]) then (if b > a then b else a, true)
  else bif decide (op = [61, 61]) then (bif decide (a = b) then 1 else 0, true)
  else bif decide (op = [33, 61]) then (bif !decide (a = b) then 1 else 0, true)
  else (0, false)
theorem boolean_ok (b : Bool) (w : World) : Ret PP fn_r07_boolean #[.bool b] w fun v w' => v = .int .i64 (bif b then 1 else 0) ∧ G w w' := by
  have g := G.refl w
  refine ret_of_sc (m := 4) func_r07_boolean rfl rfl [(0, True, _)] (sub_cons rfl (sub_nil _)) ?_
  refine sc_seq fun K1 hK1 => ?_
  refine sc_text [3] ?_
  refine sr_pu rfl (fun _ => rd_assign ev_c) ?_
  refine sr_nil (hK1 _ _ ?_)
  refine sc_seq fun K2 hK2 => ?_
  refine sc_seq fun K3 hK3 => ?_
  refine sc_text [3] ?_
  refine sr_pu rfl (fun _ => rd_move (ev_t rfl)) ?_
  refine sr_sub [(2, _, _), (3, _, _)] (sub_cons rfl (sub_cons rfl (sub_nil _))) ?_
  refine sr_nil (hK3 _ _ ?_)
  refine sc_cond (ev_t rfl) (fun h1 => ?_) (fun h1 => ?_)
  · (try simp only [bsimp] at h1)
    refine sc_seq fun K4 hK4 => ?_
    refine sc_text [3] ?_
    refine sr_pu rfl (fun _ => rd_assign ev_c) ?_
    refine sr_sub [(2, _, _)] (sub_cons rfl (sub_nil _)) ?_
    refine sr_nil (hK4 _ _ ?_)
    refine sc_ret (t_ret1 rfl rfl ?_)
    refine ⟨?_, g⟩
    rw [h1]; rfl
  (try simp only [bsimp] at h1)
  refine sc_skip (hK2 _ _ ?_)
  refine sc_sub [(2, _, _)] (sub_cons rfl (sub_nil _)) ?_
  refine sc_seq fun K5 hK5 => ?_
  refine sc_text [3] ?_
  refine sr_pu rfl (fun _ => rd_assign ev_c) ?_
  refine sr_nil (hK5 _ _ ?_)
  refine sc_ret (t_ret1 rfl rfl ?_)
  refine ⟨?_, g⟩
  rw [h1]; rfl
theorem rarith_ok (op : List UInt8) (a b : Int) (w : World) : Ret PP fn_r07_arithmetic #[Str op, .int .i64 a, .int .i64 b] w fun v w' => v = retC (arF op a b) ∧ G w w' := by
  have g := G.refl w
  refine ret_of_sc (m := 74) func_r07_arithmetic rfl rfl [(0, True, _), (1, True, _), (2, True, _)] (sub_cons rfl (sub_cons rfl (sub_cons rfl (sub_nil _)))) ?_
  refine sc_seq fun K1 hK1 => ?_
  refine sc_text [3, 3, 3] ?_
  refine sr_pu rfl (fun _ => rd_assign ev_c) ?_
  refine sr_pu rfl (fun _ => rd_assign ev_c) ?_
  refine sr_pu rfl (fun _ => rd_assign ev_c) ?_
  refine sr_nil (hK1 _ _ ?_)
  refine sc_seq fun K2 hK2 => ?_
  refine sc_seq fun K3 hK3 => ?_
  refine sc_text [3] ?_
  refine sr_pu rfl (fun _ => rd_move (ev_t rfl)) ?_
  refine sr_nil (hK3 _ _ ?_)
  refine sc_block ?_
  refine sc_seq fun K4 hK4 => ?_
  refine sc_text [3, 3] ?_
  refine sr_pu rfl (fun _ => rd_seq (ev_t rfl) ev_c) ?_
  refine sr_pu rfl (fun _ => rd_assign (ev_t rfl)) ?_
  refine sr_sub [(0, _, _), (1, _, _), (2, _, _), (6, _, _), (7, _, _), (8, _, _), (9, _, _), (10, _, _)] (sub_cons rfl (sub_cons rfl (sub_cons rfl (sub_cons rfl (sub_cons rfl (sub_cons rfl (sub_cons rfl (sub_cons rfl (sub_nil _))))))))) ?_
  refine sr_nil (hK4 _ _ ?_)
  refine sc_cond (ev_t rfl) (fun h1 => ?_) (fun h1 => ?_)
  · (try simp only [bsimp] at h1)
    refine sc_seq fun K5 hK5 => ?_
    refine sc_text [3, 3, 3, 3, 3, 3] ?_
    refine sr_pu rfl (fun _ => rd_move (ev_t rfl)) ?_
    refine sr_pu rfl (fun _ => rd_move (ev_t rfl)) ?_
    refine sr_pu rfl (fun _ => rd_addw (ev_t rfl) (ev_t rfl)) ?_
    refine sr_pu rfl (fun _ => rd_assign (ev_t rfl)) ?_
    refine sr_pu rfl (fun _ => rd_assign ev_c) ?_
    refine sr_pu rfl (fun _ => rd_assign ev_c) ?_
    refine sr_sub [(6, _, _), (7, _, _), (8, _, _)] (sub_cons rfl (sub_cons rfl (sub_cons rfl (sub_nil _)))) ?_
    refine sr_nil (hK5 _ _ ?_)
    refine sc_ret (t_rets (ts := [6, 7, 8]) (vs := [_, _, _]) rfl rfl rfl ?_)
    refine ⟨?_, g⟩
    unfold arF; simp only [h1, cond_true, cond_false] <;> rfl
  (try simp only [bsimp] at h1)
  refine sc_seq fun K6 hK6 => ?_
  refine sc_text [3, 3] ?_
  refine sr_pu rfl (fun _ => rd_seq (ev_t rfl) ev_c) ?_
  refine sr_pu rfl (fun _ => rd_assign (ev_t rfl)) ?_
  refine sr_sub [(0, _, _), (1, _, _), (2, _, _), (6, _, _), (7, _, _), (8, _, _), (9, _, _), (15, _, _)] (sub_cons rfl (sub_cons rfl (sub_cons rfl (sub_cons rfl (sub_cons rfl (sub_cons rfl (sub_cons rfl (sub_cons rfl (sub_nil _))))))))) ?_
  refine sr_nil (hK6 _ _ ?_)
  refine sc_cond (ev_t rfl) (fun h2 => ?_) (fun h2 => ?_)
  · (try simp only [bsimp] at h2)
    refine sc_seq fun K7 hK7 => ?_
    refine sc_text [3, 3, 3, 3, 3, 3] ?_
    refine sr_pu rfl (fun _ => rd_move (ev_t rfl)) ?_
    refine sr_pu rfl (fun _ => rd_move (ev_t rfl)) ?_
    refine sr_pu rfl (fun _ => rd_subw (ev_t rfl) (ev_t rfl)) ?_
    refine sr_pu rfl (fun _ => rd_assign (ev_t rfl)) ?_
    refine sr_pu rfl (fun _ => rd_assign ev_c) ?_
    refine sr_pu rfl (fun _ => rd_assign ev_c) ?_
    refine sr_sub [(6, _, _), (7, _, _), (8, _, _)] (sub_cons rfl (sub_cons rfl (sub_cons rfl (sub_nil _)))) ?_
    refine sr_nil (hK7 _ _ ?_)
    refine sc_ret (t_rets (ts := [6, 7, 8]) (vs := [_, _, _]) rfl rfl rfl ?_)
    refine ⟨?_, g⟩
    unfold arF; simp only [h1, h2, cond_true, cond_false] <;> rfl
  (try simp only [bsimp] at h2)
  refine sc_seq fun K8 hK8 => ?_
  refine sc_text [3, 3] ?_
  refine sr_pu rfl (fun _ => rd_seq (ev_t rfl) ev_c) ?_
  refine sr_pu rfl (fun _ => rd_assign (ev_t rfl)) ?_
  refine sr_sub [(0, _, _), (1, _, _), (2, _, _), (6, _, _), (7, _, _), (8, _, _), (9, _, _), (20, _, _)] (sub_cons rfl (sub_cons rfl (sub_cons rfl (sub_cons rfl (sub_cons rfl (sub_cons rfl (sub_cons rfl (sub_cons rfl (sub_nil _))))))))) ?_
  refine sr_nil (hK8 _ _ ?_)
  refine sc_cond (ev_t rfl) (fun h3 => ?_) (fun h3 => ?_)
  · (try simp only [bsimp] at h3)
    refine sc_seq fun K9 hK9 => ?_
    refine sc_text [3, 3, 3, 3, 3, 3] ?_
    refine sr_pu rfl (fun _ => rd_move (ev_t rfl)) ?_
    refine sr_pu rfl (fun _ => rd_move (ev_t rfl)) ?_
    refine sr_pu rfl (fun _ => rd_mulw (ev_t rfl) (ev_t rfl)) ?_
    refine sr_pu rfl (fun _ => rd_assign (ev_t rfl)) ?_
    refine sr_pu rfl (fun _ => rd_assign ev_c) ?_
    refine sr_pu rfl (fun _ => rd_assign ev_c) ?_
    refine sr_sub [(6, _, _), (7, _, _), (8, _, _)] (sub_cons rfl (sub_cons rfl (sub_cons rfl (sub_nil _)))) ?_
    refine sr_nil (hK9 _ _ ?_)
    refine sc_ret (t_rets (ts := [6, 7, 8]) (vs := [_, _, _]) rfl rfl rfl ?_)
    refine ⟨?_, g⟩
    unfold arF; simp only [h1, h2, h3, cond_true, cond_false] <;> rfl
  (try simp only [bsimp] at h3)
  refine sc_seq fun K10 hK10 => ?_
  refine sc_seq fun K11 hK11 => ?_
  refine sc_text [3, 3] ?_
  refine sr_pu rfl (fun _ => rd_seq (ev_t rfl) ev_c) ?_
  refine sr_pu rfl (fun _ => rd_assign (ev_t rfl)) ?_
  refine sr_sub [(0, _, _), (1, _, _), (2, _, _), (6, _, _), (7, _, _), (8, _, _), (9, _, _), (25, _, _)] (sub_cons rfl (sub_cons rfl (sub_cons rfl (sub_cons rfl (sub_cons rfl (sub_cons rfl (sub_cons rfl (sub_cons rfl (sub_nil _))))))))) ?_
  refine sr_nil (hK11 _ _ ?_)
  refine' sc_or [(0, _, _), (1, _, _), (2, _, _), (6, _, _), (7, _, _), (8, _, _), (9, _, _)] (sub_cons rfl (sub_cons rfl (sub_cons rfl (sub_cons rfl (sub_cons rfl (sub_cons rfl (sub_cons rfl (sub_cons rfl (sub_nil _))))))))) rfl (fun hb4 => ?y4) (hK10 _ _ ?n4)
  case y4 =>
   refine sc_text [3, 3] ?_
   refine sr_pu rfl (fun _ => rd_seq (ev_t rfl) ev_c) ?_
   refine sr_pu rfl (fun _ => rd_assign (ev_t rfl)) ?_
   refine sr_sub [(25, _, _), (0, _, _), (1, _, _), (2, _, _), (6, _, _), (7, _, _), (8, _, _), (9, _, _)] (sub_cons rfl (sub_cons rfl (sub_cons rfl (sub_cons rfl (sub_cons rfl (sub_cons rfl (sub_cons rfl (sub_cons rfl (sub_nil _))))))))) ?_
   exact sr_nil (fun a ha => ⟨ha, rfl⟩)
  case n4 =>
   refine sc_cond (ev_t rfl) (fun h5 => ?_) (fun h5 => ?_)
   · replace h5 : (anyS [[47], [37]] op) = true := h5
     refine sc_seq fun K12 hK12 => ?_
     refine sc_seq fun K13 hK13 => ?_
     refine sc_text [3, 3] ?_
     refine sr_pu rfl (fun _ => rd_move (ev_t rfl)) ?_
     refine sr_pu rfl (fun _ => rd_eq (ev_t rfl) ev_c) ?_
     refine sr_sub [(0, _, _), (1, _, _), (2, _, _), (6, _, _), (7, _, _), (8, _, _), (29, _, _)] (sub_cons rfl (sub_cons rfl (sub_cons rfl (sub_cons rfl (sub_cons rfl (sub_cons rfl (sub_cons rfl (sub_nil _)))))))) ?_
     refine sr_nil (hK13 _ _ ?_)
     refine sc_cond (ev_t rfl) (fun h6 => ?_) (fun h6 => ?_)
     · (try simp only [bsimp] at h6)
       refine sc_seq fun K14 hK14 => ?_
       refine sc_text [3, 3, 3] ?_
       refine sr_pu rfl (fun _ => rd_assign ev_c) ?_
       refine sr_pu rfl (fun _ => rd_assign ev_c) ?_
       refine sr_pu rfl (fun _ => rd_assign ev_c) ?_
       refine sr_sub [(0, _, _), (1, _, _), (2, _, _), (6, _, _), (7, _, _), (8, _, _)] (sub_cons rfl (sub_cons rfl (sub_cons rfl (sub_cons rfl (sub_cons rfl (sub_cons rfl (sub_nil _))))))) ?_
       refine sr_nil (hK14 _ _ ?_)
       refine sc_ret (t_rets (ts := [6, 7, 8]) (vs := [_, _, _]) rfl rfl rfl ?_)
       refine ⟨?_, g⟩
       unfold arF; simp only [h1, h2, h3, h5, h6, cond_true, cond_false] <;> rfl
     (try simp only [bsimp] at h6)
     refine sc_skip (hK12 _ _ ?_)
     refine sc_sub [(0, _, _), (1, _, _), (2, _, _), (6, _, _), (7, _, _), (8, _, _)] (sub_cons rfl (sub_cons rfl (sub_cons rfl (sub_cons rfl (sub_cons rfl (sub_cons rfl (sub_nil _))))))) ?_
     refine sc_seq fun K15 hK15 => ?_
     refine sc_seq fun K16 hK16 => ?_
     refine sc_text [3, 3] ?_
     refine sr_pu rfl (fun _ => rd_move (ev_t rfl)) ?_
     refine sr_pu rfl (fun _ => rd_seq (ev_t rfl) ev_c) ?_
     refine sr_sub [(1, _, _), (2, _, _), (6, _, _), (7, _, _), (8, _, _), (31, _, _)] (sub_cons rfl (sub_cons rfl (sub_cons rfl (sub_cons rfl (sub_cons rfl (sub_cons rfl (sub_nil _))))))) ?_
     refine sr_nil (hK16 _ _ ?_)
     refine sc_cond (ev_t rfl) (fun h7 => ?_) (fun h7 => ?_)
     · (try simp only [bsimp] at h7)
       refine sc_seq fun K17 hK17 => ?_
       refine sc_text [3, 3, 3, 3, 3, 3] ?_
       refine sr_pu rfl (fun _ => rd_move (ev_t rfl)) ?_
       refine sr_pu rfl (fun _ => rd_move (ev_t rfl)) ?_
       refine sr_pu rfl (fun _ => rd_quow (ev_t rfl) (ev_t rfl) (fun hc => by simpa using h6)) ?_
       refine sr_pu rfl (fun _ => rd_assign (ev_t rfl)) ?_
       refine sr_pu rfl (fun _ => rd_assign ev_c) ?_
       refine sr_pu rfl (fun _ => rd_assign ev_c) ?_
       refine sr_sub [(1, _, _), (2, _, _), (6, _, _), (7, _, _), (8, _, _)] (sub_cons rfl (sub_cons rfl (sub_cons rfl (sub_cons rfl (sub_cons rfl (sub_nil _)))))) ?_
       refine sr_nil (hK17 _ _ ?_)
       refine sc_ret (t_rets (ts := [6, 7, 8]) (vs := [_, _, _]) rfl rfl rfl ?_)
       refine ⟨?_, g⟩
       unfold arF; simp only [h1, h2, h3, h5, h6, h7, cond_true, cond_false] <;> rfl
     (try simp only [bsimp] at h7)
     refine sc_skip (hK15 _ _ ?_)
     refine sc_sub [(1, _, _), (2, _, _), (6, _, _), (7, _, _), (8, _, _)] (sub_cons rfl (sub_cons rfl (sub_cons rfl (sub_cons rfl (sub_cons rfl (sub_nil _)))))) ?_
     refine sc_seq fun K18 hK18 => ?_
     refine sc_text [3, 3, 3, 3, 3, 3] ?_
     refine sr_pu rfl (fun _ => rd_move (ev_t rfl)) ?_
     refine sr_pu rfl (fun _ => rd_move (ev_t rfl)) ?_
     refine sr_pu rfl (fun _ => rd_remw (ev_t rfl) (ev_t rfl) (fun hc => by simpa using h6)) ?_
     refine sr_pu rfl (fun _ => rd_assign (ev_t rfl)) ?_
     refine sr_pu rfl (fun _ => rd_assign ev_c) ?_
     refine sr_pu rfl (fun _ => rd_assign ev_c) ?_
     refine sr_sub [(6, _, _), (7, _, _), (8, _, _)] (sub_cons rfl (sub_cons rfl (sub_cons rfl (sub_nil _)))) ?_
     refine sr_nil (hK18 _ _ ?_)
     refine sc_ret (t_rets (ts := [6, 7, 8]) (vs := [_, _, _]) rfl rfl rfl ?_)
     refine ⟨?_, g⟩
     unfold arF; simp only [h1, h2, h3, h5, h6, h7, cond_true, cond_false] <;> rfl
   replace h5 : (anyS [[47], [37]] op) = false := h5
   refine sc_seq fun K19 hK19 => ?_
   refine sc_text [3, 3] ?_
   refine sr_pu rfl (fun _ => rd_seq (ev_t rfl) ev_c) ?_
   refine sr_pu rfl (fun _ => rd_assign (ev_t rfl)) ?_
   refine sr_sub [(1, _, _), (2, _, _), (6, _, _), (7, _, _), (8, _, _), (9, _, _), (38, _, _)] (sub_cons rfl (sub_cons rfl (sub_cons rfl (sub_cons rfl (sub_cons rfl (sub_cons rfl (sub_cons rfl (sub_nil _)))))))) ?_
   refine sr_nil (hK19 _ _ ?_)
   refine sc_cond (ev_t rfl) (fun h8 => ?_) (fun h8 => ?_)
   · (try simp only [bsimp] at h8)
     refine sc_seq fun K20 hK20 => ?_
     refine sc_text [3, 3, 3, 1, 3, 3, 3] ?_
     refine sr_pu rfl (fun _ => rd_move (ev_t rfl)) ?_
     refine sr_pu rfl (fun _ => rd_move (ev_t rfl)) ?_
     refine sr_pu rfl (fun _ => rd_lt (ev_t rfl) (ev_t rfl)) ?_
     refine sr_pure rfl (rc_call go_r07_boolean ev_f (args_cons (ev_t rfl) (args_nil)) rfl) (boolean_ok _ _) (fun w43 g43 => ?_)
     have g := g.trans (g43)
     refine sr_pu rfl (fun _ => rd_assign (ev_t rfl)) ?_
     refine sr_pu rfl (fun _ => rd_assign ev_c) ?_
     refine sr_pu rfl (fun _ => rd_assign ev_c) ?_
     refine sr_sub [(6, _, _), (7, _, _), (8, _, _)] (sub_cons rfl (sub_cons rfl (sub_cons rfl (sub_nil _)))) ?_
     refine sr_nil (hK20 _ _ ?_)
     refine sc_ret (t_rets (ts := [6, 7, 8]) (vs := [_, _, _]) rfl rfl rfl ?_)
     refine ⟨?_, g⟩
     unfold arF; simp only [h1, h2, h3, h5, h8, cond_true, cond_false] <;> rfl
   (try simp only [bsimp] at h8)
   refine sc_seq fun K21 hK21 => ?_
   refine sc_text [3, 3] ?_
   refine sr_pu rfl (fun _ => rd_seq (ev_t rfl) ev_c) ?_
   refine sr_pu rfl (fun _ => rd_assign (ev_t rfl)) ?_
   refine sr_sub [(1, _, _), (2, _, _), (6, _, _), (7, _, _), (8, _, _), (9, _, _), (44, _, _)] (sub_cons rfl (sub_cons rfl (sub_cons rfl (sub_cons rfl (sub_cons rfl (sub_cons rfl (sub_cons rfl (sub_nil _)))))))) ?_
   refine sr_nil (hK21 _ _ ?_)
   refine sc_cond (ev_t rfl) (fun h9 => ?_) (fun h9 => ?_)
   · (try simp only [bsimp] at h9)
     refine sc_seq fun K22 hK22 => ?_
     refine sc_text [3, 3, 3, 1, 3, 3, 3] ?_
     refine sr_pu rfl (fun _ => rd_move (ev_t rfl)) ?_
     refine sr_pu rfl (fun _ => rd_move (ev_t rfl)) ?_
     refine sr_pu rfl (fun _ => rd_le (ev_t rfl) (ev_t rfl)) ?_
     refine sr_pure rfl (rc_call go_r07_boolean ev_f (args_cons (ev_t rfl) (args_nil)) rfl) (boolean_ok _ _) (fun w49 g49 => ?_)
     have g := g.trans (g49)
     refine sr_pu rfl (fun _ => rd_assign (ev_t rfl)) ?_
     refine sr_pu rfl (fun _ => rd_assign ev_c) ?_
     refine sr_pu rfl (fun _ => rd_assign ev_c) ?_
     refine sr_sub [(6, _, _), (7, _, _), (8, _, _)] (sub_cons rfl (sub_cons rfl (sub_cons rfl (sub_nil _)))) ?_
     refine sr_nil (hK22 _ _ ?_)
     refine sc_ret (t_rets (ts := [6, 7, 8]) (vs := [_, _, _]) rfl rfl rfl ?_)
     refine ⟨?_, g⟩
     unfold arF; simp only [h1, h2, h3, h5, h8, h9, cond_true, cond_false] <;> rfl
   (try simp only [bsimp] at h9)
   refine sc_seq fun K23 hK23 => ?_
   refine sc_text [3, 3] ?_
   refine sr_pu rfl (fun _ => rd_seq (ev_t rfl) ev_c) ?_
   refine sr_pu rfl (fun _ => rd_assign (ev_t rfl)) ?_
   refine sr_sub [(1, _, _), (2, _, _), (6, _, _), (7, _, _), (8, _, _), (9, _, _), (50, _, _)] (sub_cons rfl (sub_cons rfl (sub_cons rfl (sub_cons rfl (sub_cons rfl (sub_cons rfl (sub_cons rfl (sub_nil _)))))))) ?_
   refine sr_nil (hK23 _ _ ?_)
   refine sc_cond (ev_t rfl) (fun h10 => ?_) (fun h10 => ?_)
   · (try simp only [bsimp] at h10)
     refine sc_seq fun K24 hK24 => ?_
     refine sc_text [3, 3, 3, 1, 3, 3, 3] ?_
     refine sr_pu rfl (fun _ => rd_move (ev_t rfl)) ?_
     refine sr_pu rfl (fun _ => rd_move (ev_t rfl)) ?_
     refine sr_pu rfl (fun _ => rd_gt (ev_t rfl) (ev_t rfl)) ?_
     refine sr_pure rfl (rc_call go_r07_boolean ev_f (args_cons (ev_t rfl) (args_nil)) rfl) (boolean_ok _ _) (fun w55 g55 => ?_)
     have g := g.trans (g55)
     refine sr_pu rfl (fun _ => rd_assign (ev_t rfl)) ?_
     refine sr_pu rfl (fun _ => rd_assign ev_c) ?_
     refine sr_pu rfl (fun _ => rd_assign ev_c) ?_
     refine sr_sub [(6, _, _), (7, _, _), (8, _, _)] (sub_cons rfl (sub_cons rfl (sub_cons rfl (sub_nil _)))) ?_
     refine sr_nil (hK24 _ _ ?_)
     refine sc_ret (t_rets (ts := [6, 7, 8]) (vs := [_, _, _]) rfl rfl rfl ?_)
     refine ⟨?_, g⟩
     unfold arF; simp only [h1, h2, h3, h5, h8, h9, h10, cond_true, cond_false] <;> rfl
   (try simp only [bsimp] at h10)
   refine sc_seq fun K25 hK25 => ?_
   refine sc_text [3, 3] ?_
   refine sr_pu rfl (fun _ => rd_seq (ev_t rfl) ev_c) ?_
   refine sr_pu rfl (fun _ => rd_assign (ev_t rfl)) ?_
   refine sr_sub [(1, _, _), (2, _, _), (6, _, _), (7, _, _), (8, _, _), (9, _, _), (56, _, _)] (sub_cons rfl (sub_cons rfl (sub_cons rfl (sub_cons rfl (sub_cons rfl (sub_cons rfl (sub_cons rfl (sub_nil _)))))))) ?_
   refine sr_nil (hK25 _ _ ?_)
   refine sc_cond (ev_t rfl) (fun h11 => ?_) (fun h11 => ?_)
   · (try simp only [bsimp] at h11)
     refine sc_seq fun K26 hK26 => ?_
     refine sc_text [3, 3, 3, 1, 3, 3, 3] ?_
     refine sr_pu rfl (fun _ => rd_move (ev_t rfl)) ?_
     refine sr_pu rfl (fun _ => rd_move (ev_t rfl)) ?_
     refine sr_pu rfl (fun _ => rd_ge (ev_t rfl) (ev_t rfl)) ?_
     refine sr_pure rfl (rc_call go_r07_boolean ev_f (args_cons (ev_t rfl) (args_nil)) rfl) (boolean_ok _ _) (fun w61 g61 => ?_)
     have g := g.trans (g61)
     refine sr_pu rfl (fun _ => rd_assign (ev_t rfl)) ?_
     refine sr_pu rfl (fun _ => rd_assign ev_c) ?_
     refine sr_pu rfl (fun _ => rd_assign ev_c) ?_
     refine sr_sub [(6, _, _), (7, _, _), (8, _, _)] (sub_cons rfl (sub_cons rfl (sub_cons rfl (sub_nil _)))) ?_
     refine sr_nil (hK26 _ _ ?_)
     refine sc_ret (t_rets (ts := [6, 7, 8]) (vs := [_, _, _]) rfl rfl rfl ?_)
     refine ⟨?_, g⟩
     unfold arF; simp only [h1, h2, h3, h5, h8, h9, h10, h11, cond_true, cond_false] <;> rfl
   (try simp only [bsimp] at h11)
   refine sc_seq fun K27 hK27 => ?_
   refine sc_text [3, 3] ?_
   refine sr_pu rfl (fun _ => rd_seq (ev_t rfl) ev_c) ?_
   refine sr_pu rfl (fun _ => rd_assign (ev_t rfl)) ?_
   refine sr_sub [(1, _, _), (2, _, _), (6, _, _), (7, _, _), (8, _, _), (9, _, _), (62, _, _)] (sub_cons rfl (sub_cons rfl (sub_cons rfl (sub_cons rfl (sub_cons rfl (sub_cons rfl (sub_cons rfl (sub_nil _)))))))) ?_
   refine sr_nil (hK27 _ _ ?_)
   refine sc_cond (ev_t rfl) (fun h12 => ?_) (fun h12 => ?_)
   · (try simp only [bsimp] at h12)
     refine sc_seq fun K28 hK28 => ?_
     refine sc_text [3, 3, 3, 1, 3, 3, 3] ?_
     refine sr_pu rfl (fun _ => rd_move (ev_t rfl)) ?_
     refine sr_pu rfl (fun _ => rd_move (ev_t rfl)) ?_
     refine sr_pu rfl (fun _ => rd_eq (ev_t rfl) (ev_t rfl)) ?_
     refine sr_pure rfl (rc_call go_r07_boolean ev_f (args_cons (ev_t rfl) (args_nil)) rfl) (boolean_ok _ _) (fun w67 g67 => ?_)
     have g := g.trans (g67)
     refine sr_pu rfl (fun _ => rd_assign (ev_t rfl)) ?_
     refine sr_pu rfl (fun _ => rd_assign ev_c) ?_
     refine sr_pu rfl (fun _ => rd_assign ev_c) ?_
     refine sr_sub [(6, _, _), (7, _, _), (8, _, _)] (sub_cons rfl (sub_cons rfl (sub_cons rfl (sub_nil _)))) ?_
     refine sr_nil (hK28 _ _ ?_)
     refine sc_ret (t_rets (ts := [6, 7, 8]) (vs := [_, _, _]) rfl rfl rfl ?_)
     refine ⟨?_, g⟩
     unfold arF; simp only [h1, h2, h3, h5, h8, h9, h10, h11, h12, cond_true, cond_false] <;> rfl
   (try simp only [bsimp] at h12)
   refine sc_seq fun K29 hK29 => ?_
   refine sc_text [3, 3] ?_
   refine sr_pu rfl (fun _ => rd_seq (ev_t rfl) ev_c) ?_
   refine sr_pu rfl (fun _ => rd_assign (ev_t rfl)) ?_
   refine sr_sub [(1, _, _), (2, _, _), (6, _, _), (7, _, _), (8, _, _), (68, _, _)] (sub_cons rfl (sub_cons rfl (sub_cons rfl (sub_cons rfl (sub_cons rfl (sub_cons rfl (sub_nil _))))))) ?_
   refine sr_nil (hK29 _ _ ?_)
   refine sc_cond (ev_t rfl) (fun h13 => ?_) (fun h13 => ?_)
   · (try simp only [bsimp] at h13)
     refine sc_seq fun K30 hK30 => ?_
     refine sc_text [3, 3, 3, 1, 3, 3, 3] ?_
     refine sr_pu rfl (fun _ => rd_move (ev_t rfl)) ?_
     refine sr_pu rfl (fun _ => rd_move (ev_t rfl)) ?_
     refine sr_pu rfl (fun _ => rd_ne (ev_t rfl) (ev_t rfl)) ?_
     refine sr_pure rfl (rc_call go_r07_boolean ev_f (args_cons (ev_t rfl) (args_nil)) rfl) (boolean_ok _ _) (fun w73 g73 => ?_)
     have g := g.trans (g73)
     refine sr_pu rfl (fun _ => rd_assign (ev_t rfl)) ?_
     refine sr_pu rfl (fun _ => rd_assign ev_c) ?_
     refine sr_pu rfl (fun _ => rd_assign ev_c) ?_
     refine sr_sub [(6, _, _), (7, _, _), (8, _, _)] (sub_cons rfl (sub_cons rfl (sub_cons rfl (sub_nil _)))) ?_
     refine sr_nil (hK30 _ _ ?_)
     refine sc_ret (t_rets (ts := [6, 7, 8]) (vs := [_, _, _]) rfl rfl rfl ?_)
     refine ⟨?_, g⟩
     unfold arF; simp only [h1, h2, h3, h5, h8, h9, h10, h11, h12, h13, cond_true, cond_false] <;> rfl
   (try simp only [bsimp] at h13)
   refine sc_skip (hK2 _ _ ?_)
   refine sc_sub [(6, _, _), (7, _, _), (8, _, _)] (sub_cons rfl (sub_cons rfl (sub_cons rfl (sub_nil _)))) ?_
   refine sc_seq fun K31 hK31 => ?_
   refine sc_text [3, 3, 3] ?_
   refine sr_pu rfl (fun _ => rd_assign ev_c) ?_
   refine sr_pu rfl (fun _ => rd_assign ev_c) ?_
   refine sr_pu rfl (fun _ => rd_assign ev_c) ?_
   refine sr_nil (hK31 _ _ ?_)
   refine sc_ret (t_rets (ts := [6, 7, 8]) (vs := [_, _, _]) rfl rfl rfl ?_)
   refine ⟨?_, g⟩
   unfold arF; simp only [h1, h2, h3, h5, h8, h9, h10, h11, h12, h13, cond_true, cond_false] <;> rfl
theorem rlogic_ok (op : List UInt8) (a b : Int) (w : World) : Ret PP fn_r07_logic #[Str op, .int .i64 a, .int .i64 b] w fun v w' => v = .tuple #[.int .i64 (loP op a b).1, .bool (loP op a b).2] ∧ G w w' := by
  have g := G.refl w
  refine ret_of_sc (m := 31) func_r07_logic rfl rfl [(0, True, _), (1, True, _), (2, True, _)] (sub_cons rfl (sub_cons rfl (sub_cons rfl (sub_nil _)))) ?_
  refine sc_seq fun K1 hK1 => ?_
  refine sc_text [3, 3] ?_
  refine sr_pu rfl (fun _ => rd_assign ev_c) ?_
  refine sr_pu rfl (fun _ => rd_assign ev_c) ?_
  refine sr_nil (hK1 _ _ ?_)
  refine sc_seq fun K2 hK2 => ?_
  refine sc_seq fun K3 hK3 => ?_
  refine sc_text [3] ?_
  refine sr_pu rfl (fun _ => rd_move (ev_t rfl)) ?_
  refine sr_sub [(1, _, _), (2, _, _), (6, _, _), (7, _, _), (8, _, _)] (sub_cons rfl (sub_cons rfl (sub_cons rfl (sub_cons rfl (sub_cons rfl (sub_nil _)))))) ?_
  refine sr_nil (hK3 _ _ ?_)
  refine sc_block ?_
  refine sc_seq fun K4 hK4 => ?_
  refine sc_text [3, 3] ?_
  refine sr_pu rfl (fun _ => rd_seq (ev_t rfl) ev_c) ?_
  refine sr_pu rfl (fun _ => rd_assign (ev_t rfl)) ?_
  refine sr_sub [(1, _, _), (2, _, _), (6, _, _), (7, _, _), (8, _, _), (9, _, _)] (sub_cons rfl (sub_cons rfl (sub_cons rfl (sub_cons rfl (sub_cons rfl (sub_cons rfl (sub_nil _))))))) ?_
  refine sr_nil (hK4 _ _ ?_)
  refine sc_cond (ev_t rfl) (fun h1 => ?_) (fun h1 => ?_)
  · (try simp only [bsimp] at h1)
    refine sc_seq fun K5 hK5 => ?_
    refine sc_text [3, 3, 3, 3, 3] ?_
    refine sr_pu rfl (fun _ => rd_move (ev_t rfl)) ?_
    refine sr_pu rfl (fun _ => rd_move (ev_t rfl)) ?_
    refine sr_pu rfl (fun _ => rd_mulw (ev_t rfl) (ev_t rfl)) ?_
    refine sr_pu rfl (fun _ => rd_assign (ev_t rfl)) ?_
    refine sr_pu rfl (fun _ => rd_assign ev_c) ?_
    refine sr_sub [(6, _, _), (7, _, _)] (sub_cons rfl (sub_cons rfl (sub_nil _))) ?_
    refine sr_nil (hK5 _ _ ?_)
    refine sc_ret (t_rets (ts := [6, 7]) (vs := [_, _]) rfl rfl rfl ?_)
    refine ⟨?_, g⟩
    unfold loP; simp only [h1, cond_true, cond_false] <;> rfl
  (try simp only [bsimp] at h1)
  refine sc_seq fun K6 hK6 => ?_
  refine sc_text [3, 3] ?_
  refine sr_pu rfl (fun _ => rd_seq (ev_t rfl) ev_c) ?_
  refine sr_pu rfl (fun _ => rd_assign (ev_t rfl)) ?_
  refine sr_sub [(1, _, _), (2, _, _), (6, _, _), (7, _, _), (8, _, _), (14, _, _)] (sub_cons rfl (sub_cons rfl (sub_cons rfl (sub_cons rfl (sub_cons rfl (sub_cons rfl (sub_nil _))))))) ?_
  refine sr_nil (hK6 _ _ ?_)
  refine sc_cond (ev_t rfl) (fun h2 => ?_) (fun h2 => ?_)
  · (try simp only [bsimp] at h2)
    refine sc_seq fun K7 hK7 => ?_
    refine sc_text [3, 3, 3, 3, 3] ?_
    refine sr_pu rfl (fun _ => rd_move (ev_t rfl)) ?_
    refine sr_pu rfl (fun _ => rd_move (ev_t rfl)) ?_
    refine sr_pu rfl (fun _ => rd_max (ev_t rfl) (ev_t rfl)) ?_
    refine sr_pu rfl (fun _ => rd_assign (ev_t rfl)) ?_
    refine sr_pu rfl (fun _ => rd_assign ev_c) ?_
    refine sr_sub [(6, _, _), (7, _, _)] (sub_cons rfl (sub_cons rfl (sub_nil _))) ?_
    refine sr_nil (hK7 _ _ ?_)
    refine sc_ret (t_rets (ts := [6, 7]) (vs := [_, _]) rfl rfl rfl ?_)
    refine ⟨?_, g⟩
    unfold loP; simp only [h1, h2, cond_true, cond_false] <;> rfl
  (try simp only [bsimp] at h2)
  refine sc_seq fun K8 hK8 => ?_
  refine sc_text [3, 3] ?_
  refine sr_pu rfl (fun _ => rd_seq (ev_t rfl) ev_c) ?_
  refine sr_pu rfl (fun _ => rd_assign (ev_t rfl)) ?_
  refine sr_sub [(1, _, _), (2, _, _), (6, _, _), (7, _, _), (8, _, _), (19, _, _)] (sub_cons rfl (sub_cons rfl (sub_cons rfl (sub_cons rfl (sub_cons rfl (sub_cons rfl (sub_nil _))))))) ?_
  refine sr_nil (hK8 _ _ ?_)
  refine sc_cond (ev_t rfl) (fun h3 => ?_) (fun h3 => ?_)
  · (try simp only [bsimp] at h3)
    refine sc_seq fun K9 hK9 => ?_
    refine sc_text [3, 3, 3, 1, 3, 3] ?_
    refine sr_pu rfl (fun _ => rd_move (ev_t rfl)) ?_
    refine sr_pu rfl (fun _ => rd_move (ev_t rfl)) ?_
    refine sr_pu rfl (fun _ => rd_eq (ev_t rfl) (ev_t rfl)) ?_
    refine sr_pure rfl (rc_call go_r07_boolean ev_f (args_cons (ev_t rfl) (args_nil)) rfl) (boolean_ok _ _) (fun w24 g24 => ?_)
    have g := g.trans (g24)
    refine sr_pu rfl (fun _ => rd_assign (ev_t rfl)) ?_
    refine sr_pu rfl (fun _ => rd_assign ev_c) ?_
    refine sr_sub [(6, _, _), (7, _, _)] (sub_cons rfl (sub_cons rfl (sub_nil _))) ?_
    refine sr_nil (hK9 _ _ ?_)
    refine sc_ret (t_rets (ts := [6, 7]) (vs := [_, _]) rfl rfl rfl ?_)
    refine ⟨?_, g⟩
    unfold loP; simp only [h1, h2, h3, cond_true, cond_false] <;> rfl
  (try simp only [bsimp] at h3)
  refine sc_seq fun K10 hK10 => ?_
  refine sc_text [3, 3] ?_
  refine sr_pu rfl (fun _ => rd_seq (ev_t rfl) ev_c) ?_
  refine sr_pu rfl (fun _ => rd_assign (ev_t rfl)) ?_
  refine sr_sub [(1, _, _), (2, _, _), (6, _, _), (7, _, _), (25, _, _)] (sub_cons rfl (sub_cons rfl (sub_cons rfl (sub_cons rfl (sub_cons rfl (sub_nil _)))))) ?_
  refine sr_nil (hK10 _ _ ?_)
  refine sc_cond (ev_t rfl) (fun h4 => ?_) (fun h4 => ?_)
  · (try simp only [bsimp] at h4)
    refine sc_seq fun K11 hK11 => ?_
    refine sc_text [3, 3, 3, 1, 3, 3] ?_
    refine sr_pu rfl (fun _ => rd_move (ev_t rfl)) ?_
    refine sr_pu rfl (fun _ => rd_move (ev_t rfl)) ?_
    refine sr_pu rfl (fun _ => rd_ne (ev_t rfl) (ev_t rfl)) ?_
    refine sr_pure rfl (rc_call go_r07_boolean ev_f (args_cons (ev_t rfl) (args_nil)) rfl) (boolean_ok _ _) (fun w30 g30 => ?_)
    have g := g.trans (g30)
    refine sr_pu rfl (fun _ => rd_assign (ev_t rfl)) ?_
    refine sr_pu rfl (fun _ => rd_assign ev_c) ?_
    refine sr_sub [(6, _, _), (7, _, _)] (sub_cons rfl (sub_cons rfl (sub_nil _))) ?_
    refine sr_nil (hK11 _ _ ?_)
    refine sc_ret (t_rets (ts := [6, 7]) (vs := [_, _]) rfl rfl rfl ?_)
    refine ⟨?_, g⟩
    unfold loP; simp only [h1, h2, h3, h4, cond_true, cond_false] <;> rfl
  (try simp only [bsimp] at h4)
  refine sc_skip (hK2 _ _ ?_)
  refine sc_sub [(6, _, _), (7, _, _)] (sub_cons rfl (sub_cons rfl (sub_nil _))) ?_
  refine sc_seq fun K12 hK12 => ?_
  refine sc_text [3, 3] ?_
  refine sr_pu rfl (fun _ => rd_assign ev_c) ?_
  refine sr_pu rfl (fun _ => rd_assign ev_c) ?_
  refine sr_nil (hK12 _ _ ?_)
  refine sc_ret (t_rets (ts := [6, 7]) (vs := [_, _]) rfl rfl rfl ?_)
  refine ⟨?_, g⟩
  unfold loP; simp only [h1, h2, h3, h4, cond_true, cond_false] <;> rfl
def refCF (t : Nd) (r : Nat → Cst × Bool) : Cst × Bool :=
  bif decide (t.kind = 24) then nmC t.num
  else bif decide (t.kind = 25) then ((true, t.num), true)
  else bif decide (t.kind = 31) then
    bif !(r 0).2 || ((r 0).1.1 != decide (t.text = [33])) then zc
    else bif (r 0).1.1 then ((true, IntKind.i64.wrap (1 - (r 0).1.2)), true)
    else nmC (IntKind.i64.wrap (0 - (r 0).1.2))
  else bif decide (t.kind = 32) then
    bif (!(r 0).2 || !(r 1).2) || ((r 0).1.1 != (r 1).1.1) then zc
    else bif (r 0).1.1 then ((true, (loP t.text (r 0).1.2 (r 1).1.2).1), (loP t.text (r 0).1.2 (r 1).1.2).2)
    else arF t.text (r 0).1.2 (r 1).1.2
  else zc
def refC (t : Nd) : Cst × Bool := para (fun t l => refCF t fun i => l.getD i zc) t
theorem refC_nd0 : refC nd0 = zc := by rw [refC, para_eq]; rfl
theorem refC_eq (t : Nd) : refC t = refCF t fun i => refC (kidAt t i) := by
  have h : ∀ i, (t.kids.map (para (fun t l => refCF t fun i => l.getD i zc))).getD i zc = refC (kidAt t i) := fun i => by
    have := getD_map' refC t.kids i nd0
    rw [refC_nd0] at this; exact this
  rw [refC, para_eq]
  exact congrArg (refCF t) (funext h)
theorem expr_31 {t : Nd} (h : t.kind = 31) (he : exprB t = true) : t.kids.length = 1 ∧ (t.text = [45] ∨ t.text = [33]) ∧ exprB (kidAt t 0) = true := by
  rw [← refExpr_eq, refExpr, h] at he
  have he : (((decide (t.text = [45]) || decide (t.text = [33])) && lenK t 1) && exprB (kidAt t 0)) = true := he
  simp only [lenK, Bool.and_eq_true, Bool.or_eq_true, decide_eq_true_eq] at he
  exact ⟨by omega, he.1.1, he.2⟩
theorem expr_32 {t : Nd} (h : t.kind = 32) (he : exprB t = true) : t.kids.length = 2 ∧ anyS binOps t.text = true ∧ exprB (kidAt t 0) = true ∧ exprB (kidAt t 1) = true := by
  rw [← refExpr_eq, refExpr, h] at he
  have he : ((anyS binOps t.text && lenK t 2) && t.kids.all exprB) = true := he
  rw [Bool.and_assoc, all_2] at he
  simp only [lenK, Bool.and_eq_true, decide_eq_true_eq] at he
  exact ⟨by omega, he.1, he.2.2.1, he.2.2.2⟩
theorem rconst_ok : ∀ (t : Nd) (v : Value) (D : Nat → Prop) (w : World), Kd w D t.kids v → exprB t = true → Ret PP fn_r07_constant #[ndV t v] w fun r w' => r = retC (refC t) ∧ G w w' := by
  refine Nd.ind fun t ih v D w hk he => ?_
  obtain ⟨p, c, rfl, hcap, hks⟩ := hk
  have hk0 : Kd w D t.kids (.slice p t.kids.length c) := ⟨p, c, rfl, hcap, hks⟩
  rw [refC_eq]
  have g := G.refl w
  refine ret_of_sc (m := 101) func_r07_constant rfl rfl [(0, True, _)] (sub_cons rfl (sub_nil _)) ?_
  refine sc_seq fun K1 hK1 => ?_
  refine sc_text [1, 3, 3, 3] ?_
  refine sr_box rfl (ev_t rfl) rfl ?_
  intro b1 w1 N1
  have l1 := N1.ge g
  have g := g.trans (N1.g)
  have B1 := N1.blk
  refine sr_pu rfl (fun _ => rd_assign ev_c) ?_
  refine sr_pu rfl (fun _ => rd_assign ev_c) ?_
  refine sr_pu rfl (fun _ => rd_assign ev_c) ?_
  refine sr_sub [(1, _, _), (2, _, _), (3, _, _), (4, _, _)] (sub_cons rfl (sub_cons rfl (sub_cons rfl (sub_cons rfl (sub_nil _))))) ?_
  refine sr_nil (hK1 _ _ ?_)
  refine sc_seq fun K2 hK2 => ?_
  refine sc_seq fun K3 hK3 => ?_
  refine sc_text [3, 0] ?_
  refine sr_pu rfl (fun _ => rd_field fo_api_Node_0 (ev_t rfl)) ?_
  refine sr_rd rfl (rd_load one_int (ev_t rfl) (fun _ => B1.at_ rfl)) ?_
  refine sr_sub [(1, _, _), (2, _, _), (3, _, _), (4, _, _), (17, _, _)] (sub_cons rfl (sub_cons rfl (sub_cons rfl (sub_cons rfl (sub_cons rfl (sub_nil _)))))) ?_
  refine sr_nil (hK3 _ _ ?_)
  refine sc_block ?_
  refine sc_seq fun K4 hK4 => ?_
  refine sc_text [3, 3] ?_
  refine sr_pu rfl (fun _ => rd_eq (ev_t rfl) ev_c) ?_
  refine sr_pu rfl (fun _ => rd_assign (ev_t rfl)) ?_
  refine sr_sub [(1, _, _), (2, _, _), (3, _, _), (4, _, _), (17, _, _), (18, _, _)] (sub_cons rfl (sub_cons rfl (sub_cons rfl (sub_cons rfl (sub_cons rfl (sub_cons rfl (sub_nil _))))))) ?_
  refine sr_nil (hK4 _ _ ?_)
  refine sc_cond (ev_t rfl) (fun h1 => ?_) (fun h1 => ?_)
  · (try simp only [bsimp] at h1)
    refine sc_seq fun K5 hK5 => ?_
    refine sc_text [3, 0, 3, 3, 3] ?_
    refine sr_pu rfl (fun _ => rd_field fo_api_Node_2 (ev_t rfl)) ?_
    refine sr_rd rfl (rd_load one_int (ev_t rfl) (fun _ => B1.at_ rfl)) ?_
    refine sr_pu rfl (fun _ => rd_assign (ev_t rfl)) ?_
    refine sr_pu rfl (fun _ => rd_assign ev_c) ?_
    refine sr_pu rfl (fun _ => rd_assign ev_c) ?_
    refine sr_sub [(2, _, _), (3, _, _), (4, _, _)] (sub_cons rfl (sub_cons rfl (sub_cons rfl (sub_nil _)))) ?_
    refine sr_nil (hK5 _ _ ?_)
    refine sc_ret (t_rets (ts := [2, 3, 4]) (vs := [_, _, _]) rfl rfl rfl ?_)
    refine ⟨?_, g⟩
    unfold refCF; simp only [h1, cond_true, cond_false] <;> rfl
  (try simp only [bsimp] at h1)
  refine sc_seq fun K6 hK6 => ?_
  refine sc_text [3, 3] ?_
  refine sr_pu rfl (fun _ => rd_eq (ev_t rfl) ev_c) ?_
  refine sr_pu rfl (fun _ => rd_assign (ev_t rfl)) ?_
  refine sr_sub [(1, _, _), (2, _, _), (3, _, _), (4, _, _), (17, _, _), (22, _, _)] (sub_cons rfl (sub_cons rfl (sub_cons rfl (sub_cons rfl (sub_cons rfl (sub_cons rfl (sub_nil _))))))) ?_
  refine sr_nil (hK6 _ _ ?_)
  refine sc_cond (ev_t rfl) (fun h2 => ?_) (fun h2 => ?_)
  · (try simp only [bsimp] at h2)
    refine sc_seq fun K7 hK7 => ?_
    refine sc_text [3, 0, 3, 3, 3] ?_
    refine sr_pu rfl (fun _ => rd_field fo_api_Node_2 (ev_t rfl)) ?_
    refine sr_rd rfl (rd_load one_int (ev_t rfl) (fun _ => B1.at_ rfl)) ?_
    refine sr_pu rfl (fun _ => rd_assign (ev_t rfl)) ?_
    refine sr_pu rfl (fun _ => rd_assign ev_c) ?_
    refine sr_pu rfl (fun _ => rd_assign ev_c) ?_
    refine sr_sub [(2, _, _), (3, _, _), (4, _, _)] (sub_cons rfl (sub_cons rfl (sub_cons rfl (sub_nil _)))) ?_
    refine sr_nil (hK7 _ _ ?_)
    refine sc_ret (t_rets (ts := [2, 3, 4]) (vs := [_, _, _]) rfl rfl rfl ?_)
    refine ⟨?_, g⟩
    unfold refCF; simp only [h1, h2, cond_true, cond_false] <;> rfl
  (try simp only [bsimp] at h2)
  refine sc_seq fun K8 hK8 => ?_
  refine sc_text [3, 3] ?_
  refine sr_pu rfl (fun _ => rd_eq (ev_t rfl) ev_c) ?_
  refine sr_pu rfl (fun _ => rd_assign (ev_t rfl)) ?_
  refine sr_sub [(1, _, _), (2, _, _), (3, _, _), (4, _, _), (17, _, _), (26, _, _)] (sub_cons rfl (sub_cons rfl (sub_cons rfl (sub_cons rfl (sub_cons rfl (sub_cons rfl (sub_nil _))))))) ?_
  refine sr_nil (hK8 _ _ ?_)
  refine sc_cond (ev_t rfl) (fun h3 => ?_) (fun h3 => ?_)
  · obtain ⟨hl, _, hx⟩ := expr_31 (by simpa using h3) he
    obtain ⟨hpe, p0, c0, hcell0, hkid0⟩ := kd_opt hk0 (i := 0) (by omega)
    have e0 := kidAt_eq (show 0 < t.kids.length by omega)
    refine sc_seq fun K9 hK9 => ?_
    refine sc_text [3, 0, 3, 0, 1, 3, 3, 3, 3, 3, 3, 3] ?_
    refine sr_pu rfl (fun _ => rd_field fo_api_Node_4 (ev_t rfl)) ?_
    refine sr_rd rfl (rd_load one_sl_api_Node (ev_t rfl) (fun _ => B1.at_ rfl)) ?_
    refine sr_pu rfl (fun _ => rd_idxq el_sl_api_Node (ev_t rfl) ev_c (fun _ => by omega) (fun _ => hpe)) ?_
    refine sr_rd rfl (rd_loads agg_api_Node (ev_t rfl) rfl (fun _ => hcell0.grow g)) ?_
    refine sr_pure rfl (rc_call go_r07_constant ev_f (args_cons (ev_t rfl) (args_nil)) rfl) (ih _ (e0 ▸ List.getElem_mem _) _ D _ (hkid0.grow g) hx) (fun w33 g33 => ?_)
    have g := g.trans (g33)
    replace B1 := B1.grow (g33)
    refine sr_pu rfl (fun _ => rd_move (ev_t rfl)) ?_
    refine sr_pu rfl (fun _ => rd_extract (ev_t rfl) rfl) ?_
    refine sr_pu rfl (fun _ => rd_extract (ev_t rfl) rfl) ?_
    refine sr_pu rfl (fun _ => rd_extract (ev_t rfl) rfl) ?_
    refine sr_pu rfl (fun _ => rd_assign (ev_t rfl)) ?_
    refine sr_pu rfl (fun _ => rd_assign (ev_t rfl)) ?_
    refine sr_pu rfl (fun _ => rd_assign (ev_t rfl)) ?_
    refine sr_sub [(1, _, _), (2, _, _), (3, _, _), (4, _, _), (5, _, _), (6, _, _), (7, _, _)] (sub_cons rfl (sub_cons rfl (sub_cons rfl (sub_cons rfl (sub_cons rfl (sub_cons rfl (sub_cons rfl (sub_nil _)))))))) ?_
    refine sr_nil (hK9 _ _ ?_)
    refine sc_seq fun K10 hK10 => ?_
    refine sc_seq fun K11 hK11 => ?_
    refine sc_text [3, 3, 3, 3, 3, 0, 3, 3, 3] ?_
    refine sr_pu rfl (fun _ => rd_move (ev_t rfl)) ?_
    refine sr_pu rfl (fun _ => rd_not (ev_t rfl)) ?_
    refine sr_pu rfl (fun _ => rd_move (ev_t rfl)) ?_
    refine sr_pug rfl rfl rfl (fun _ => rd_move (ev_t rfl)) ?_
    refine sr_pug rfl rfl rfl (fun _ => rd_field fo_api_Node_1 (ev_t rfl)) ?_
    refine sr_rdg rfl rfl rfl (rd_load one_string (ev_u rfl id) (fun _ => B1.at_ rfl)) ?_
    refine sr_pug rfl rfl rfl (fun _ => rd_seq (ev_u rfl id) ev_c) ?_
    refine sr_pug rfl rfl rfl (fun _ => rd_bne und_bool (ev_u rfl id) (ev_u rfl id)) ?_
    refine sr_pu rfl (fun _ => rd_pick_or (ev_t rfl) (ev_u rfl id)) ?_
    refine sr_sub [(2, _, _), (3, _, _), (4, _, _), (5, _, _), (6, _, _), (45, _, _)] (sub_cons rfl (sub_cons rfl (sub_cons rfl (sub_cons rfl (sub_cons rfl (sub_cons rfl (sub_nil _))))))) ?_
    refine sr_nil (hK11 _ _ ?_)
    refine sc_cond (ev_t rfl) (fun h4 => ?_) (fun h4 => ?_)
    · (try simp only [bsimp] at h4)
      refine sc_seq fun K12 hK12 => ?_
      refine sc_text [3, 3, 3] ?_
      refine sr_pu rfl (fun _ => rd_assign ev_c) ?_
      refine sr_pu rfl (fun _ => rd_assign ev_c) ?_
      refine sr_pu rfl (fun _ => rd_assign ev_c) ?_
      refine sr_sub [(2, _, _), (3, _, _), (4, _, _), (5, _, _), (6, _, _)] (sub_cons rfl (sub_cons rfl (sub_cons rfl (sub_cons rfl (sub_cons rfl (sub_nil _)))))) ?_
      refine sr_nil (hK12 _ _ ?_)
      refine sc_ret (t_rets (ts := [2, 3, 4]) (vs := [_, _, _]) rfl rfl rfl ?_)
      refine ⟨?_, g⟩
      unfold refCF; simp only [h1, h2, h3, h4, cond_true, cond_false] <;> rfl
    (try simp only [bsimp] at h4)
    refine sc_skip (hK10 _ _ ?_)
    refine sc_sub [(2, _, _), (3, _, _), (4, _, _), (5, _, _), (6, _, _)] (sub_cons rfl (sub_cons rfl (sub_cons rfl (sub_cons rfl (sub_cons rfl (sub_nil _)))))) ?_
    refine sc_seq fun K13 hK13 => ?_
    refine sc_seq fun K14 hK14 => ?_
    refine sc_text [3] ?_
    refine sr_pu rfl (fun _ => rd_move (ev_t rfl)) ?_
    refine sr_sub [(2, _, _), (3, _, _), (4, _, _), (5, _, _), (46, _, _)] (sub_cons rfl (sub_cons rfl (sub_cons rfl (sub_cons rfl (sub_cons rfl (sub_nil _)))))) ?_
    refine sr_nil (hK14 _ _ ?_)
    refine sc_cond (ev_t rfl) (fun h5 => ?_) (fun h5 => ?_)
    · (try simp only [bsimp] at h5)
      refine sc_seq fun K15 hK15 => ?_
      refine sc_text [3, 3, 3, 3, 3] ?_
      refine sr_pu rfl (fun _ => rd_move (ev_t rfl)) ?_
      refine sr_pu rfl (fun _ => rd_subw ev_c (ev_t rfl)) ?_
      refine sr_pu rfl (fun _ => rd_assign (ev_t rfl)) ?_
      refine sr_pu rfl (fun _ => rd_assign ev_c) ?_
      refine sr_pu rfl (fun _ => rd_assign ev_c) ?_
      refine sr_sub [(2, _, _), (3, _, _), (4, _, _), (5, _, _)] (sub_cons rfl (sub_cons rfl (sub_cons rfl (sub_cons rfl (sub_nil _))))) ?_
      refine sr_nil (hK15 _ _ ?_)
      refine sc_ret (t_rets (ts := [2, 3, 4]) (vs := [_, _, _]) rfl rfl rfl ?_)
      refine ⟨?_, g⟩
      unfold refCF; simp only [h1, h2, h3, cond_true, cond_false]; rw [h4, h5]; rfl
    (try simp only [bsimp] at h5)
    refine sc_skip (hK13 _ _ ?_)
    refine sc_sub [(2, _, _), (3, _, _), (4, _, _), (5, _, _)] (sub_cons rfl (sub_cons rfl (sub_cons rfl (sub_cons rfl (sub_nil _))))) ?_
    refine sc_seq fun K16 hK16 => ?_
    refine sc_text [3, 3, 3, 3, 3] ?_
    refine sr_pu rfl (fun _ => rd_move (ev_t rfl)) ?_
    refine sr_pu rfl (fun _ => rd_negw (ev_t rfl)) ?_
    refine sr_pu rfl (fun _ => rd_assign (ev_t rfl)) ?_
    refine sr_pu rfl (fun _ => rd_assign ev_c) ?_
    refine sr_pu rfl (fun _ => rd_assign ev_c) ?_
    refine sr_sub [(2, _, _), (3, _, _), (4, _, _)] (sub_cons rfl (sub_cons rfl (sub_cons rfl (sub_nil _)))) ?_
    refine sr_nil (hK16 _ _ ?_)
    refine sc_ret (t_rets (ts := [2, 3, 4]) (vs := [_, _, _]) rfl rfl rfl ?_)
    refine ⟨?_, g⟩
    unfold refCF; simp only [h1, h2, h3, cond_true, cond_false]; rw [h4, h5]; rfl
  (try simp only [bsimp] at h3)
  refine sc_seq fun K17 hK17 => ?_
  refine sc_text [3, 3] ?_
  refine sr_pu rfl (fun _ => rd_eq (ev_t rfl) ev_c) ?_
  refine sr_pu rfl (fun _ => rd_assign (ev_t rfl)) ?_
  refine sr_sub [(1, _, _), (2, _, _), (3, _, _), (4, _, _), (51, _, _)] (sub_cons rfl (sub_cons rfl (sub_cons rfl (sub_cons rfl (sub_cons rfl (sub_nil _)))))) ?_
  refine sr_nil (hK17 _ _ ?_)
  refine sc_cond (ev_t rfl) (fun h6 => ?_) (fun h6 => ?_)
  · obtain ⟨hl, _, hx, hy⟩ := expr_32 (by simpa using h6) he
    obtain ⟨hpe, p0, c0, hcell0, hkid0⟩ := kd_opt hk0 (i := 0) (by omega)
    obtain ⟨_, p1, c1, hcell1, hkid1⟩ := kd_opt hk0 (i := 1) (by omega)
    have e0 := kidAt_eq (show 0 < t.kids.length by omega)
    have e1 := kidAt_eq (show 1 < t.kids.length by omega)
    refine sc_seq fun K18 hK18 => ?_
    refine sc_text [3, 0, 3, 0, 1, 3, 3, 3, 3, 3, 3, 3] ?_
    refine sr_pu rfl (fun _ => rd_field fo_api_Node_4 (ev_t rfl)) ?_
    refine sr_rd rfl (rd_load one_sl_api_Node (ev_t rfl) (fun _ => B1.at_ rfl)) ?_
    refine sr_pu rfl (fun _ => rd_idxq el_sl_api_Node (ev_t rfl) ev_c (fun _ => by omega) (fun _ => hpe)) ?_
    refine sr_rd rfl (rd_loads agg_api_Node (ev_t rfl) rfl (fun _ => hcell0.grow g)) ?_
    refine sr_pure rfl (rc_call go_r07_constant ev_f (args_cons (ev_t rfl) (args_nil)) rfl) (ih _ (e0 ▸ List.getElem_mem _) _ D _ (hkid0.grow g) hx) (fun w58 g58 => ?_)
    have g := g.trans (g58)
    replace B1 := B1.grow (g58)
    refine sr_pu rfl (fun _ => rd_move (ev_t rfl)) ?_
    refine sr_pu rfl (fun _ => rd_extract (ev_t rfl) rfl) ?_
    refine sr_pu rfl (fun _ => rd_extract (ev_t rfl) rfl) ?_
    refine sr_pu rfl (fun _ => rd_extract (ev_t rfl) rfl) ?_
    refine sr_pu rfl (fun _ => rd_assign (ev_t rfl)) ?_
    refine sr_pu rfl (fun _ => rd_assign (ev_t rfl)) ?_
    refine sr_pu rfl (fun _ => rd_assign (ev_t rfl)) ?_
    refine sr_sub [(1, _, _), (2, _, _), (3, _, _), (4, _, _), (8, _, _), (9, _, _), (10, _, _)] (sub_cons rfl (sub_cons rfl (sub_cons rfl (sub_cons rfl (sub_cons rfl (sub_cons rfl (sub_cons rfl (sub_nil _)))))))) ?_
    refine sr_nil (hK18 _ _ ?_)
    refine sc_seq fun K19 hK19 => ?_
    refine sc_text [3, 0, 3, 0, 1, 3, 3, 3, 3, 3, 3, 3] ?_
    refine sr_pu rfl (fun _ => rd_field fo_api_Node_4 (ev_t rfl)) ?_
    refine sr_rd rfl (rd_load one_sl_api_Node (ev_t rfl) (fun _ => B1.at_ rfl)) ?_
    refine sr_pu rfl (fun _ => rd_idxq el_sl_api_Node (ev_t rfl) ev_c (fun _ => by omega) (fun _ => hpe)) ?_
    refine sr_rd rfl (rd_loads agg_api_Node (ev_t rfl) rfl (fun _ => hcell1.grow g)) ?_
    refine sr_pure rfl (rc_call go_r07_constant ev_f (args_cons (ev_t rfl) (args_nil)) rfl) (ih _ (e1 ▸ List.getElem_mem _) _ D _ (hkid1.grow g) hy) (fun w67 g67 => ?_)
    have g := g.trans (g67)
    replace B1 := B1.grow (g67)
    refine sr_pu rfl (fun _ => rd_move (ev_t rfl)) ?_
    refine sr_pu rfl (fun _ => rd_extract (ev_t rfl) rfl) ?_
    refine sr_pu rfl (fun _ => rd_extract (ev_t rfl) rfl) ?_
    refine sr_pu rfl (fun _ => rd_extract (ev_t rfl) rfl) ?_
    refine sr_pu rfl (fun _ => rd_assign (ev_t rfl)) ?_
    refine sr_pu rfl (fun _ => rd_assign (ev_t rfl)) ?_
    refine sr_pu rfl (fun _ => rd_assign (ev_t rfl)) ?_
    refine sr_sub [(1, _, _), (2, _, _), (3, _, _), (4, _, _), (8, _, _), (9, _, _), (10, _, _), (11, _, _), (12, _, _), (13, _, _)] (sub_cons rfl (sub_cons rfl (sub_cons rfl (sub_cons rfl (sub_cons rfl (sub_cons rfl (sub_cons rfl (sub_cons rfl (sub_cons rfl (sub_cons rfl (sub_nil _))))))))))) ?_
    refine sr_nil (hK19 _ _ ?_)
    refine sc_seq fun K20 hK20 => ?_
    refine sc_seq fun K21 hK21 => ?_
    refine sc_text [3, 3, 3, 3, 3, 3, 3, 3, 3, 3, 3] ?_
    refine sr_pu rfl (fun _ => rd_move (ev_t rfl)) ?_
    refine sr_pu rfl (fun _ => rd_not (ev_t rfl)) ?_
    refine sr_pu rfl (fun _ => rd_move (ev_t rfl)) ?_
    refine sr_pug rfl rfl rfl (fun _ => rd_move (ev_t rfl)) ?_
    refine sr_pug rfl rfl rfl (fun _ => rd_not (ev_u rfl id)) ?_
    refine sr_pu rfl (fun _ => rd_pick_or (ev_t rfl) (ev_u rfl id)) ?_
    refine sr_pu rfl (fun _ => rd_move (ev_t rfl)) ?_
    refine sr_pug rfl rfl rfl (fun _ => rd_move (ev_t rfl)) ?_
    refine sr_pug rfl rfl rfl (fun _ => rd_move (ev_t rfl)) ?_
    refine sr_pug rfl rfl rfl (fun _ => rd_bne und_bool (ev_u rfl id) (ev_u rfl id)) ?_
    refine sr_pu rfl (fun _ => rd_pick_or (ev_t rfl) (ev_u rfl id)) ?_
    refine sr_sub [(1, _, _), (2, _, _), (3, _, _), (4, _, _), (8, _, _), (9, _, _), (11, _, _), (81, _, _)] (sub_cons rfl (sub_cons rfl (sub_cons rfl (sub_cons rfl (sub_cons rfl (sub_cons rfl (sub_cons rfl (sub_cons rfl (sub_nil _))))))))) ?_
    refine sr_nil (hK21 _ _ ?_)
    refine sc_cond (ev_t rfl) (fun h7 => ?_) (fun h7 => ?_)
    · (try simp only [bsimp] at h7)
      refine sc_seq fun K22 hK22 => ?_
      refine sc_text [3, 3, 3] ?_
      refine sr_pu rfl (fun _ => rd_assign ev_c) ?_
      refine sr_pu rfl (fun _ => rd_assign ev_c) ?_
      refine sr_pu rfl (fun _ => rd_assign ev_c) ?_
      refine sr_sub [(1, _, _), (2, _, _), (3, _, _), (4, _, _), (8, _, _), (9, _, _), (11, _, _)] (sub_cons rfl (sub_cons rfl (sub_cons rfl (sub_cons rfl (sub_cons rfl (sub_cons rfl (sub_cons rfl (sub_nil _)))))))) ?_
      refine sr_nil (hK22 _ _ ?_)
      refine sc_ret (t_rets (ts := [2, 3, 4]) (vs := [_, _, _]) rfl rfl rfl ?_)
      refine ⟨?_, g⟩
      unfold refCF; simp only [h1, h2, h3, h6, h7, cond_true, cond_false] <;> rfl
    (try simp only [bsimp] at h7)
    refine sc_skip (hK20 _ _ ?_)
    refine sc_sub [(1, _, _), (2, _, _), (3, _, _), (4, _, _), (8, _, _), (9, _, _), (11, _, _)] (sub_cons rfl (sub_cons rfl (sub_cons rfl (sub_cons rfl (sub_cons rfl (sub_cons rfl (sub_cons rfl (sub_nil _)))))))) ?_
    refine sc_seq fun K23 hK23 => ?_
    refine sc_seq fun K24 hK24 => ?_
    refine sc_text [3] ?_
    refine sr_pu rfl (fun _ => rd_move (ev_t rfl)) ?_
    refine sr_sub [(1, _, _), (2, _, _), (3, _, _), (4, _, _), (8, _, _), (11, _, _), (82, _, _)] (sub_cons rfl (sub_cons rfl (sub_cons rfl (sub_cons rfl (sub_cons rfl (sub_cons rfl (sub_cons rfl (sub_nil _)))))))) ?_
    refine sr_nil (hK24 _ _ ?_)
    refine sc_cond (ev_t rfl) (fun h8 => ?_) (fun h8 => ?_)
    · (try simp only [bsimp] at h8)
      refine sc_seq fun K25 hK25 => ?_
      refine sc_text [3, 0, 3, 3, 1, 3, 3, 3, 3, 3] ?_
      refine sr_pu rfl (fun _ => rd_field fo_api_Node_1 (ev_t rfl)) ?_
      refine sr_rd rfl (rd_load one_string (ev_t rfl) (fun _ => B1.at_ rfl)) ?_
      refine sr_pu rfl (fun _ => rd_move (ev_t rfl)) ?_
      refine sr_pu rfl (fun _ => rd_move (ev_t rfl)) ?_
      refine sr_pure rfl (rc_call go_r07_logic ev_f (args_cons (ev_t rfl) (args_cons (ev_t rfl) (args_cons (ev_t rfl) (args_nil)))) rfl) (rlogic_ok _ _ _ _) (fun w88 g88 => ?_)
      have g := g.trans (g88)
      replace B1 := B1.grow (g88)
      refine sr_pu rfl (fun _ => rd_move (ev_t rfl)) ?_
      refine sr_pu rfl (fun _ => rd_extract (ev_t rfl) rfl) ?_
      refine sr_pu rfl (fun _ => rd_extract (ev_t rfl) rfl) ?_
      refine sr_pu rfl (fun _ => rd_assign (ev_t rfl)) ?_
      refine sr_pu rfl (fun _ => rd_assign (ev_t rfl)) ?_
      refine sr_sub [(1, _, _), (2, _, _), (3, _, _), (4, _, _), (8, _, _), (11, _, _), (14, _, _), (15, _, _)] (sub_cons rfl (sub_cons rfl (sub_cons rfl (sub_cons rfl (sub_cons rfl (sub_cons rfl (sub_cons rfl (sub_cons rfl (sub_nil _))))))))) ?_
      refine sr_nil (hK25 _ _ ?_)
      refine sc_seq fun K26 hK26 => ?_
      refine sc_text [3, 3, 3, 3, 3] ?_
      refine sr_pu rfl (fun _ => rd_move (ev_t rfl)) ?_
      refine sr_pu rfl (fun _ => rd_move (ev_t rfl)) ?_
      refine sr_pu rfl (fun _ => rd_assign (ev_t rfl)) ?_
      refine sr_pu rfl (fun _ => rd_assign ev_c) ?_
      refine sr_pu rfl (fun _ => rd_assign (ev_t rfl)) ?_
      refine sr_sub [(1, _, _), (2, _, _), (3, _, _), (4, _, _), (8, _, _), (11, _, _)] (sub_cons rfl (sub_cons rfl (sub_cons rfl (sub_cons rfl (sub_cons rfl (sub_cons rfl (sub_nil _))))))) ?_
      refine sr_nil (hK26 _ _ ?_)
      refine sc_ret (t_rets (ts := [2, 3, 4]) (vs := [_, _, _]) rfl rfl rfl ?_)
      refine ⟨?_, g⟩
      unfold refCF; simp only [h1, h2, h3, h6, cond_true, cond_false]; rw [h7, h8]; rfl
    (try simp only [bsimp] at h8)
    refine sc_skip (hK23 _ _ ?_)
    refine sc_sub [(1, _, _), (2, _, _), (3, _, _), (4, _, _), (8, _, _), (11, _, _)] (sub_cons rfl (sub_cons rfl (sub_cons rfl (sub_cons rfl (sub_cons rfl (sub_cons rfl (sub_nil _))))))) ?_
    refine sc_seq fun K27 hK27 => ?_
    refine sc_text [3, 0, 3, 3, 1, 3, 3, 3, 3, 3, 3] ?_
    refine sr_pu rfl (fun _ => rd_field fo_api_Node_1 (ev_t rfl)) ?_
    refine sr_rd rfl (rd_load one_string (ev_t rfl) (fun _ => B1.at_ rfl)) ?_
    refine sr_pu rfl (fun _ => rd_move (ev_t rfl)) ?_
    refine sr_pu rfl (fun _ => rd_move (ev_t rfl)) ?_
    refine sr_pure rfl (rc_call go_r07_arithmetic ev_f (args_cons (ev_t rfl) (args_cons (ev_t rfl) (args_cons (ev_t rfl) (args_nil)))) rfl) (rarith_ok _ _ _ _) (fun w97 g97 => ?_)
    have g := g.trans (g97)
    replace B1 := B1.grow (g97)
    refine sr_pu rfl (fun _ => rd_extract (ev_t rfl) rfl) ?_
    refine sr_pu rfl (fun _ => rd_extract (ev_t rfl) rfl) ?_
    refine sr_pu rfl (fun _ => rd_extract (ev_t rfl) rfl) ?_
    refine sr_pu rfl (fun _ => rd_assign (ev_t rfl)) ?_
    refine sr_pu rfl (fun _ => rd_assign (ev_t rfl)) ?_
    refine sr_pu rfl (fun _ => rd_assign (ev_t rfl)) ?_
    refine sr_sub [(2, _, _), (3, _, _), (4, _, _)] (sub_cons rfl (sub_cons rfl (sub_cons rfl (sub_nil _)))) ?_
    refine sr_nil (hK27 _ _ ?_)
    refine sc_ret (t_rets (ts := [2, 3, 4]) (vs := [_, _, _]) rfl rfl rfl ?_)
    refine ⟨?_, g⟩
    unfold refCF; simp only [h1, h2, h3, h6, cond_true, cond_false]; rw [h7, h8]; rfl
  (try simp only [bsimp] at h6)
  refine sc_skip (hK2 _ _ ?_)
  refine sc_sub [(2, _, _), (3, _, _), (4, _, _)] (sub_cons rfl (sub_cons rfl (sub_cons rfl (sub_nil _)))) ?_
  refine sc_seq fun K28 hK28 => ?_
  refine sc_text [3, 3, 3] ?_
  refine sr_pu rfl (fun _ => rd_assign ev_c) ?_
  refine sr_pu rfl (fun _ => rd_assign ev_c) ?_
  refine sr_pu rfl (fun _ => rd_assign ev_c) ?_
  refine sr_nil (hK28 _ _ ?_)
  refine sc_ret (t_rets (ts := [2, 3, 4]) (vs := [_, _, _]) rfl rfl rfl ?_)
  refine ⟨?_, g⟩
  unfold refCF; simp only [h1, h2, h3, h6, cond_true, cond_false] <;> rfl
theorem bin_ar (op : List UInt8) (a b : Int) : arF op a b = binF op (false, a) (false, b) := by
  by_cases h : op = [43]
  · rw [h]; rfl
  by_cases h1 : op = [45]
  · rw [h1]; rfl
  by_cases h2 : op = [42]
  · rw [h2]; rfl
  by_cases h3 : op = [47]
  · rw [h3]; show (bif decide (b = 0) then zc else nmC (IntKind.i64.wrap (a.tdiv b))) = (bif !decide (b = 0) then nmC (IntKind.i64.wrap (a.tdiv b)) else zc); cases decide (b = 0) <;> rfl
  by_cases h4 : op = [37]
  · rw [h4]; show (bif decide (b = 0) then zc else nmC (a.tmod b)) = (bif !decide (b = 0) then nmC (a.tmod b) else zc); cases decide (b = 0) <;> rfl
  by_cases h5 : op = [60]
  · rw [h5]; rfl
  by_cases h6 : op = [60, 61]
  · rw [h6]; rfl
  by_cases h7 : op = [62]
  · rw [h7]; rfl
  by_cases h8 : op = [62, 61]
  · rw [h8]; rfl
  by_cases h9 : op = [61, 61]
  · rw [h9]; rfl
  by_cases h10 : op = [33, 61]
  · rw [h10]; rfl
  simp only [arF, binF, anyS, decide_eq_false h, decide_eq_false h1, decide_eq_false h2, decide_eq_false h3, decide_eq_false h4, decide_eq_false h5, decide_eq_false h6, decide_eq_false h7, decide_eq_false h8, decide_eq_false h9, decide_eq_false h10, cond_false, Bool.or_false]
theorem bin_lo (op : List UInt8) (a b : Int) (ha : a = 0 ∨ a = 1) (hb : b = 0 ∨ b = 1) : (loP op a b).2 = (binF op (true, a) (true, b)).2 ∧ ((binF op (true, a) (true, b)).2 = true → ((true, (loP op a b).1), (loP op a b).2) = binF op (true, a) (true, b)) := by
  by_cases h : op = [38, 38]
  · rw [h]; rcases ha with rfl | rfl <;> rcases hb with rfl | rfl <;> exact ⟨rfl, fun _ => rfl⟩
  by_cases h1 : op = [124, 124]
  · rw [h1]; rcases ha with rfl | rfl <;> rcases hb with rfl | rfl <;> exact ⟨rfl, fun _ => rfl⟩
  by_cases h2 : op = [61, 61]
  · rw [h2]; exact ⟨rfl, fun _ => rfl⟩
  by_cases h3 : op = [33, 61]
  · rw [h3]; exact ⟨rfl, fun _ => rfl⟩
  simp only [loP, binF, decide_eq_false h, decide_eq_false h1, decide_eq_false h2, decide_eq_false h3, cond_false, cond_true]
  exact ⟨rfl, fun hf => absurd hf (by decide)⟩
theorem trC_bool (b : Bool) : (trC b).1.2 = 0 ∨ (trC b).1.2 = 1 := by cases b; exact .inl rfl; exact .inr rfl
def BoolOk (x : Cst × Bool) : Prop := x.1.1 = true → x.1.2 = 0 ∨ x.1.2 = 1
theorem bo_cond {c : Bool} {a b : Cst × Bool} (ha : BoolOk a) (hb : BoolOk b) : BoolOk (bif c then a else b) := by cases c; exact hb; exact ha
theorem bo_tr (b : Bool) : BoolOk (trC b) := fun _ => trC_bool b
theorem bo_nm (n : Int) : BoolOk (nmC n) := fun h => by cases h
theorem bo_zc : BoolOk zc := fun h => by cases h
theorem binF_bool (op : List UInt8) (x y : Cst) : BoolOk (binF op x y) := by
  unfold binF
  repeat' (first | exact bo_tr _ | exact bo_zc | exact bo_nm _ | refine bo_cond ?_ ?_)
theorem valC_bool : ∀ (t : Nd), (valC t).2 = true → (valC t).1.1 = true → (valC t).1.2 = 0 ∨ (valC t).1.2 = 1 := by
  refine Nd.ind fun t ih => ?_
  rw [valC_eq]
  have ih0 : (valC (kidAt t 0)).2 = true → (valC (kidAt t 0)).1.1 = true → (valC (kidAt t 0)).1.2 = 0 ∨ (valC (kidAt t 0)).1.2 = 1 := by
    by_cases h : 0 < t.kids.length
    · rw [kidAt_eq h]; exact ih _ (List.getElem_mem h)
    · rw [kidAt_out h, valC_nd0]; intro h; cases h
  unfold valF
  simp only [cond_eq_ite]
  split
  · intro _ h; cases h
  split
  · intro h _
    simp only [Bool.and_eq_true, Bool.or_eq_true, decide_eq_true_eq] at h; exact h.1.1
  split
  · split
    · intro _ h; cases h
    split
    · rename_i h
      intro _ _
      simp only [Bool.and_eq_true] at h
      rcases ih0 h.1.1 h.2 with e | e <;> rw [e]
      · exact .inr rfl
      · exact .inl rfl
    · intro h; cases h
  split
  · split
    · exact fun _ => binF_bool _ _ _
    · intro h; cases h
  · intro h; cases h
theorem binF_ops (op : List UInt8) (x y : Cst) (h : (binF op x y).2 = true) : anyS binOps op = true := by
  by_cases hm : op ∈ binOps
  · exact (anyS_iff _ _).2 hm
  · exfalso
    simp only [binOps, List.mem_cons, List.not_mem_nil, or_false, not_or] at hm
    unfold binF at h
    simp only [hm, decide_false, cond_false] at h
    cases hx : x.1 <;> rw [hx] at h <;> cases h
theorem valC_expr : ∀ (t : Nd), (valC t).2 = true → exprB t = true := by
  refine Nd.ind fun t ih => ?_
  have ihk : ∀ i, i < t.kids.length → (valC (kidAt t i)).2 = true → exprB (kidAt t i) = true := fun i h => by
    rw [kidAt_eq h]; exact ih _ (List.getElem_mem h)
  rw [valC_eq, ← refExpr_eq]
  by_cases h1 : t.kind = 24
  · rw [valF, refExpr, h1]; exact fun h => (show ((plainB t && lenK t 0) && decide (0 ≤ t.num)) = true by
      have h : ((decide (0 ≤ t.num) && plainB t) && lenK t 0) = true := h
      simp only [Bool.and_eq_true] at h ⊢; exact ⟨⟨h.1.2, h.2⟩, h.1.1⟩)
  by_cases h2 : t.kind = 25
  · rw [valF, refExpr, h2]; exact fun h => (show ((plainB t && lenK t 0) && (decide (t.num = 0) || decide (t.num = 1))) = true by
      have h : (((decide (t.num = 0) || decide (t.num = 1)) && plainB t) && lenK t 0) = true := h
      rw [Bool.and_eq_true, Bool.and_eq_true] at h; rw [h.1.2, h.2, h.1.1]; rfl)
  by_cases h3 : t.kind = 31
  · rw [valF, refExpr, h3]
    intro h
    show (((decide (t.text = [45]) || decide (t.text = [33])) && lenK t 1) && exprB (kidAt t 0)) = true
    have h : (bif lenK t 1 then (bif ((valC (kidAt t 0)).2 && decide (t.text = [45])) && !(valC (kidAt t 0)).1.1 then nmC (IntKind.i64.wrap (0 - (valC (kidAt t 0)).1.2)) else bif ((valC (kidAt t 0)).2 && decide (t.text = [33])) && (valC (kidAt t 0)).1.1 then ((true, IntKind.i64.wrap (1 - (valC (kidAt t 0)).1.2)), true) else zc) else (bif false && lenK t 2 then (bif ((valC (kidAt t 0)).2 && (valC (kidAt t 1)).2) && ((valC (kidAt t 0)).1.1 == (valC (kidAt t 1)).1.1) then binF t.text (valC (kidAt t 0)).1 (valC (kidAt t 1)).1 else zc) else zc)).2 = true := h
    cases hl : lenK t 1 with
    | false => rw [hl] at h; cases h
    | true =>
      rw [hl] at h
      have hlen : t.kids.length = 1 := by (have hz := hl; first | (unfold lenK at hz; simp at hz; omega) | (simp at hz; omega))
      cases hv : (valC (kidAt t 0)).2 with
      | false => rw [hv] at h; cases h
      | true =>
        rw [ihk 0 (by omega) hv]
        rw [hv] at h
        cases ha : decide (t.text = [45]) with
        | true => rfl
        | false =>
          rw [ha] at h
          cases hb : decide (t.text = [33]) with
          | true => rfl
          | false => rw [hb] at h; cases h
  by_cases h4 : t.kind = 32
  · rw [valF, refExpr, h4]
    intro h
    show ((anyS binOps t.text && lenK t 2) && t.kids.all exprB) = true
    have h : (bif lenK t 2 then (bif ((valC (kidAt t 0)).2 && (valC (kidAt t 1)).2) && ((valC (kidAt t 0)).1.1 == (valC (kidAt t 1)).1.1) then binF t.text (valC (kidAt t 0)).1 (valC (kidAt t 1)).1 else zc) else zc).2 = true := h
    cases hl : lenK t 2 with
    | false => rw [hl] at h; cases h
    | true =>
      rw [← hl, Bool.and_assoc, all_2, hl]
      rw [hl] at h
      have hlen : t.kids.length = 2 := by (have hz := hl; first | (unfold lenK at hz; simp at hz; omega) | (simp at hz; omega))
      cases hv : (valC (kidAt t 0)).2 with
      | false => rw [hv] at h; cases h
      | true =>
        cases hu : (valC (kidAt t 1)).2 with
        | false => rw [hv, hu] at h; cases h
        | true =>
          rw [ihk 0 (by omega) hv, ihk 1 (by omega) hu]
          rw [hv, hu] at h
          cases hb : ((valC (kidAt t 0)).1.1 == (valC (kidAt t 1)).1.1) with
          | false => rw [hb] at h; cases h
          | true => rw [hb] at h; rw [binF_ops _ _ _ h]; rfl
  rw [valF, decide_eq_false h1, decide_eq_false h2, decide_eq_false h3, decide_eq_false h4]
  intro h; cases h
theorem refC_val : ∀ (t : Nd), exprB t = true → (refC t).2 = (valC t).2 ∧ ((valC t).2 = true → refC t = valC t) := by
  refine Nd.ind fun t ih he => ?_
  have ihk : ∀ i, i < t.kids.length → exprB (kidAt t i) = true → (refC (kidAt t i)).2 = (valC (kidAt t i)).2 ∧ ((valC (kidAt t i)).2 = true → refC (kidAt t i) = valC (kidAt t i)) := fun i h => by
    rw [kidAt_eq h]; exact ih _ (List.getElem_mem h)
  rw [valC_eq, refC_eq]
  by_cases h1 : t.kind = 24
  · have he' := he
    rw [← refExpr_eq, refExpr, h1] at he'
    have he' : ((plainB t && lenK t 0) && decide (0 ≤ t.num)) = true := he'
    rw [Bool.and_eq_true, Bool.and_eq_true] at he'
    have e : (valF t fun i => valC (kidAt t i)) = refCF t fun i => refC (kidAt t i) := by
      rw [valF, refCF, h1]; show ((false, t.num), (decide (0 ≤ t.num) && plainB t) && lenK t 0) = nmC t.num
      rw [he'.1.1, he'.1.2, he'.2]; rfl
    rw [e]; exact ⟨rfl, fun _ => rfl⟩
  by_cases h2 : t.kind = 25
  · have he' := he
    rw [← refExpr_eq, refExpr, h2] at he'
    have he' : ((plainB t && lenK t 0) && (decide (t.num = 0) || decide (t.num = 1))) = true := he'
    rw [Bool.and_eq_true, Bool.and_eq_true] at he'
    have e : (valF t fun i => valC (kidAt t i)) = refCF t fun i => refC (kidAt t i) := by
      rw [valF, refCF, h2]; show ((true, t.num), ((decide (t.num = 0) || decide (t.num = 1)) && plainB t) && lenK t 0) = ((true, t.num), true)
      rw [he'.1.1, he'.1.2, he'.2]; rfl
    rw [e]; exact ⟨rfl, fun _ => rfl⟩
  by_cases h3 : t.kind = 31
  · obtain ⟨hl, hx, hk⟩ := expr_31 h3 he
    obtain ⟨i1, i2⟩ := ihk 0 (by omega) hk
    have hL : lenK t 1 = true := by rw [lenK, decide_eq_true_eq]; omega
    rw [valF, refCF, h3, hL]
    show (bif !(refC (kidAt t 0)).2 || !((refC (kidAt t 0)).1.1 == decide (t.text = [33])) then zc else bif (refC (kidAt t 0)).1.1 then ((true, IntKind.i64.wrap (1 - (refC (kidAt t 0)).1.2)), true) else nmC (IntKind.i64.wrap (0 - (refC (kidAt t 0)).1.2))).2 = (bif ((valC (kidAt t 0)).2 && decide (t.text = [45])) && !(valC (kidAt t 0)).1.1 then nmC (IntKind.i64.wrap (0 - (valC (kidAt t 0)).1.2)) else bif ((valC (kidAt t 0)).2 && decide (t.text = [33])) && (valC (kidAt t 0)).1.1 then ((true, IntKind.i64.wrap (1 - (valC (kidAt t 0)).1.2)), true) else zc).2 ∧ ((bif ((valC (kidAt t 0)).2 && decide (t.text = [45])) && !(valC (kidAt t 0)).1.1 then nmC (IntKind.i64.wrap (0 - (valC (kidAt t 0)).1.2)) else bif ((valC (kidAt t 0)).2 && decide (t.text = [33])) && (valC (kidAt t 0)).1.1 then ((true, IntKind.i64.wrap (1 - (valC (kidAt t 0)).1.2)), true) else zc).2 = true → (bif !(refC (kidAt t 0)).2 || !((refC (kidAt t 0)).1.1 == decide (t.text = [33])) then zc else bif (refC (kidAt t 0)).1.1 then ((true, IntKind.i64.wrap (1 - (refC (kidAt t 0)).1.2)), true) else nmC (IntKind.i64.wrap (0 - (refC (kidAt t 0)).1.2))) = (bif ((valC (kidAt t 0)).2 && decide (t.text = [45])) && !(valC (kidAt t 0)).1.1 then nmC (IntKind.i64.wrap (0 - (valC (kidAt t 0)).1.2)) else bif ((valC (kidAt t 0)).2 && decide (t.text = [33])) && (valC (kidAt t 0)).1.1 then ((true, IntKind.i64.wrap (1 - (valC (kidAt t 0)).1.2)), true) else zc))
    cases hv : (valC (kidAt t 0)).2 with
    | false => rw [i1, hv]; exact ⟨rfl, fun h => by cases h⟩
    | true =>
      rw [i2 hv, hv]
      rcases hx with hx | hx <;> rw [hx] <;> cases (valC (kidAt t 0)).1.1 <;> exact ⟨rfl, fun _ => rfl⟩
  by_cases h4 : t.kind = 32
  · obtain ⟨hl, hx, hk, hk1⟩ := expr_32 h4 he
    obtain ⟨i1, i2⟩ := ihk 0 (by omega) hk
    obtain ⟨j1, j2⟩ := ihk 1 (by omega) hk1
    have hL : lenK t 2 = true := by rw [lenK, decide_eq_true_eq]; omega
    have eV : (valF t fun i => valC (kidAt t i)) = (bif ((valC (kidAt t 0)).2 && (valC (kidAt t 1)).2) && ((valC (kidAt t 0)).1.1 == (valC (kidAt t 1)).1.1) then binF t.text (valC (kidAt t 0)).1 (valC (kidAt t 1)).1 else zc) := by rw [valF, h4, hL]; rfl
    have eR : (refCF t fun i => refC (kidAt t i)) = (bif (!(refC (kidAt t 0)).2 || !(refC (kidAt t 1)).2) || !((refC (kidAt t 0)).1.1 == (refC (kidAt t 1)).1.1) then zc else bif (refC (kidAt t 0)).1.1 then ((true, (loP t.text (refC (kidAt t 0)).1.2 (refC (kidAt t 1)).1.2).1), (loP t.text (refC (kidAt t 0)).1.2 (refC (kidAt t 1)).1.2).2) else arF t.text (refC (kidAt t 0)).1.2 (refC (kidAt t 1)).1.2) := by rw [refCF, h4]; rfl
    rw [eV, eR]
    cases hv : (valC (kidAt t 0)).2 with
    | false => rw [i1, hv]; exact ⟨rfl, fun h => by cases h⟩
    | true =>
      cases hu : (valC (kidAt t 1)).2 with
      | false => rw [i1, j1, hv, hu]; exact ⟨rfl, fun h => by cases h⟩
      | true =>
        rw [i2 hv, j2 hu, hv, hu]
        have hb0 := valC_bool (kidAt t 0) hv
        have hb1 := valC_bool (kidAt t 1) hu
        generalize (valC (kidAt t 0)).1 = x at *
        generalize (valC (kidAt t 1)).1 = y at *
        obtain ⟨xb, xn⟩ := x
        obtain ⟨yb, yn⟩ := y
        cases xb <;> cases yb
        · exact ⟨congrArg Prod.snd (bin_ar t.text xn yn), fun _ => bin_ar t.text xn yn⟩
        · exact ⟨rfl, fun h => by cases h⟩
        · exact ⟨rfl, fun h => by cases h⟩
        · exact bin_lo t.text xn yn (hb0 rfl) (hb1 rfl)
  rw [valF, refCF, decide_eq_false h1, decide_eq_false h2, decide_eq_false h3, decide_eq_false h4]
  exact ⟨rfl, fun h => by cases h⟩
end Go.Rk
namespace Go.Rk
open Go Go.RowKit
/-- A tree comes back, its children's blocks all of D. -/
def RetD (D : Nat → Prop) (t : Nd) (r : Value) (w : World) : Prop := ∃ p c, r = ndV t (.slice p t.kids.length c) ∧ Kd w D t.kids (.slice p t.kids.length c)
theorem RetD.grow {D : Nat → Prop} {t : Nd} {r : Value} {w w' : World} (h : RetD D t r w) (g : G w w') : RetD D t r w' := by
  obtain ⟨p, c, e, k⟩ := h
  exact ⟨p, c, e, k.grow g⟩
theorem RetD.mono {D D' : Nat → Prop} {t : Nd} {r : Value} {w : World} (h : RetD D t r w) (hD : ∀ b, D b → D' b) : RetD D' t r w := by
  obtain ⟨p, c, e, k⟩ := h
  exact ⟨p, c, e, k.mono fun b hb _ => hD b hb⟩
theorem retD_leaf (D : Nat → Prop) (t : Nd) (w : World) (h : t.kids = []) : RetD D t (ndV t (.slice none 0 0)) w := by
  refine ⟨none, 0, by rw [h]; rfl, ?_⟩
  rw [h]; exact kd_nil _ _
theorem retD_of {t : Nd} {v : Value} {w : World} {D : Nat → Prop} (h : Kd w D t.kids v) : RetD D t (ndV t v) w := by
  obtain ⟨p, c, rfl, k⟩ := h
  exact ⟨p, c, rfl, p, c, rfl, k⟩
@[reducible] def GE (n : Nat) : Nat → Prop := fun b => n ≤ b
theorem kd_one {w : World} {D : Nat → Prop} {t : Nd} {v : Value} {b : Nat} {e : TypeId} (hb : D b) (h : Blk w b e (ndCells t v)) (hk : Kd w D t.kids v) : Kd w D [t] (.slice (some ⟨b, 0, none⟩) 1 1) := kd_row hb h.row (krow_one hk) (Nat.le_refl _)
theorem OwnK.low {e : TypeId} {D : Nat → Prop} {base : Nat} {w : World} {ks : List Nd} {s : Value} (h : OwnK e D base w ks s) : OwnK e (fun b => D b ∧ b < w.heap.size) base w ks s := by
  have hlt := h.lt
  obtain ⟨xs, h1, h2, h3⟩ := h
  exact ⟨xs, h1, h2.lt.mono fun b hb _ => ⟨⟨hb.1.1, hb.2⟩, hb.1.2⟩, fun b hb => ⟨h3 b hb, hlt b hb⟩⟩
theorem OwnK.mono {e : TypeId} {D D' : Nat → Prop} {base : Nat} {w : World} {ks : List Nd} {s : Value} (h : OwnK e D base w ks s) (hD : ∀ b, D b → D' b) : OwnK e D' base w ks s := by
  obtain ⟨xs, h1, h2, h3⟩ := h
  exact ⟨xs, h1, h2.mono fun b hb _ => ⟨hD b hb.1, hb.2⟩, fun b hb => hD b (h3 b hb)⟩
end Go.Rk
