/- The reference's parts: letters, integers, operators, the token at a place. Conditions: none. -/
import Derived.Test.YtpbnkinfkkokfaaDoorScanF
namespace Go.Rk
open Go Go.RowKit
theorem rletter_ok (c : Int) (w : World) : Ret PP fn_r02_letter #[.int .u8 c] w fun v w' => v = .bool (letterB c) ∧ G w w' := by
  have g := G.refl w
  refine ret_of_sc (m := 21) func_r02_letter rfl rfl [(0, True, _)] (sub_cons rfl (sub_nil _)) ?_
  refine sc_seq fun K1 hK1 => ?_
  refine sc_text [3] ?_
  refine sr_pu rfl (fun _ => rd_assign ev_c) ?_
  refine sr_nil (hK1 _ _ ?_)
  refine sc_seq fun K2 hK2 => ?_
  refine sc_text [3, 3, 3, 3, 3, 3, 3, 3, 3, 3, 3, 3, 3, 3, 3, 3, 3, 3, 3] ?_
  refine sr_pu rfl (fun _ => rd_move (ev_t rfl)) ?_
  refine sr_pu rfl (fun _ => rd_ge (ev_t rfl) ev_c) ?_
  refine sr_pu rfl (fun _ => rd_move (ev_t rfl)) ?_
  refine sr_pug rfl rfl rfl (fun _ => rd_move (ev_t rfl)) ?_
  refine sr_pug rfl rfl rfl (fun _ => rd_le (ev_u rfl id) ev_c) ?_
  refine sr_pu rfl (fun _ => rd_pick_and (ev_t rfl) (ev_u rfl id)) ?_
  refine sr_pu rfl (fun _ => rd_move (ev_t rfl)) ?_
  refine sr_pug rfl rfl rfl (fun _ => rd_move (ev_t rfl)) ?_
  refine sr_pug rfl rfl rfl (fun _ => rd_ge (ev_u rfl id) ev_c) ?_
  refine sr_pug rfl rfl rfl (fun _ => rd_move (ev_u rfl id)) ?_
  refine sr_pug rfl rfl rfl (fun _ => rd_move (ev_t rfl)) ?_
  refine sr_pug rfl rfl rfl (fun _ => rd_le (ev_u rfl id) ev_c) ?_
  refine sr_pug rfl rfl rfl (fun _ => rd_pick_and (ev_u rfl id) (ev_u rfl id)) ?_
  refine sr_pu rfl (fun _ => rd_pick_or (ev_t rfl) (ev_u rfl id)) ?_
  refine sr_pu rfl (fun _ => rd_move (ev_t rfl)) ?_
  refine sr_pug rfl rfl rfl (fun _ => rd_move (ev_t rfl)) ?_
  refine sr_pug rfl rfl rfl (fun _ => rd_eq (ev_u rfl id) ev_c) ?_
  refine sr_pu rfl (fun _ => rd_pick_or (ev_t rfl) (ev_u rfl id)) ?_
  refine sr_pu rfl (fun _ => rd_assign (ev_t rfl)) ?_
  refine sr_sub [(2, _, _)] (sub_cons rfl (sub_nil _)) ?_
  refine sr_nil (hK2 _ _ ?_)
  refine sc_ret (t_ret1 rfl rfl ?_)
  exact ⟨rfl, g⟩
theorem rdigit_ok (c : Int) (w : World) : Ret PP fn_r02_digit #[.int .u8 c] w fun v w' => v = .bool (digitB c) ∧ G w w' := by
  have g := G.refl w
  refine ret_of_sc (m := 9) func_r02_digit rfl rfl [(0, True, _)] (sub_cons rfl (sub_nil _)) ?_
  refine sc_seq fun K1 hK1 => ?_
  refine sc_text [3] ?_
  refine sr_pu rfl (fun _ => rd_assign ev_c) ?_
  refine sr_nil (hK1 _ _ ?_)
  refine sc_seq fun K2 hK2 => ?_
  refine sc_text [3, 3, 3, 3, 3, 3, 3] ?_
  refine sr_pu rfl (fun _ => rd_move (ev_t rfl)) ?_
  refine sr_pu rfl (fun _ => rd_ge (ev_t rfl) ev_c) ?_
  refine sr_pu rfl (fun _ => rd_move (ev_t rfl)) ?_
  refine sr_pug rfl rfl rfl (fun _ => rd_move (ev_t rfl)) ?_
  refine sr_pug rfl rfl rfl (fun _ => rd_le (ev_u rfl id) ev_c) ?_
  refine sr_pu rfl (fun _ => rd_pick_and (ev_t rfl) (ev_u rfl id)) ?_
  refine sr_pu rfl (fun _ => rd_assign (ev_t rfl)) ?_
  refine sr_sub [(2, _, _)] (sub_cons rfl (sub_nil _)) ?_
  refine sr_nil (hK2 _ _ ?_)
  refine sc_ret (t_ret1 rfl rfl ?_)
  exact ⟨rfl, g⟩
def intOk (l : List UInt8) : Bool := (decide (l.length ≤ 19) && !(decide ((1 : Int) < l.length) && decide (cAt l 0 = 48))) && decide ((valN 0 l : Int) < 9223372036854775808)
theorem valN_snoc (a : Nat) (l : List UInt8) (c : UInt8) : valN a (l ++ [c]) = valN a l * 10 + (c.toNat - 48) := by simp [valN]
theorem valN_bound (l : List UInt8) (h : allD l) : valN 0 l < 10 ^ l.length := by
  have key : ∀ (l : List UInt8), allD l → ∀ a, valN a l < (a + 1) * 10 ^ l.length := by
    intro l
    induction l with
    | nil => intro _ a; show a < (a + 1) * 1; omega
    | cons c l ih =>
      intro h a
      have hc := h c (List.mem_cons_self ..)
      have := ih (fun x hx => h x (List.mem_cons_of_mem _ hx)) (a * 10 + (c.toNat - 48))
      rw [valN_cons, List.length_cons, Nat.pow_succ]
      refine Nat.lt_of_lt_of_le this ?_
      rw [show (a + 1) * (10 ^ l.length * 10) = ((a + 1) * 10) * 10 ^ l.length by rw [Nat.mul_assoc, Nat.mul_comm 10]]
      exact Nat.mul_le_mul_right _ (by omega)
  simpa using key l h 0
theorem valN_take {l : List UInt8} {i : Nat} (h : i < l.length) (hd : allD l) : (valN 0 (l.take (i + 1)) : Int) = 10 * (valN 0 (l.take i) : Int) + (cAt l i - 48) ∧ valN 0 (l.take i) < 10 ^ i ∧ 48 ≤ cAt l i ∧ cAt l i ≤ 57 := by
  have hm : l[i] ∈ l := List.getElem_mem h
  have hc := hd _ hm
  have ec : cAt l i = (l[i].toNat : Int) := by simp [cAt, List.getD_eq_getElem?_getD, List.getElem?_eq_getElem h]
  have hb := valN_bound (l.take i) (fun c hc => hd c (List.mem_of_mem_take hc))
  rw [List.length_take, Nat.min_eq_left (by omega)] at hb
  refine ⟨?_, hb, by omega, by omega⟩
  rw [List.take_succ_eq_append_getElem h, valN_snoc, ec]
  omega
theorem integer_ok (l : List UInt8) (hd : allD l) (hne : l ≠ []) (hl : l.length ≤ 20000) (w : World) : Ret PP fn_r02_Integer #[Str l] w fun v w' => (∃ x, v = .tuple #[.int .i64 x, .bool (intOk l)]) ∧ G w w' := by
  have g := G.refl w
  refine ret_of_sc (m := 46) func_r02_Integer rfl rfl [(0, True, _)] (sub_cons rfl (sub_nil _)) ?_
  refine sc_seq fun K1 hK1 => ?_
  refine sc_text [3, 3] ?_
  refine sr_pu rfl (fun _ => rd_assign ev_c) ?_
  refine sr_pu rfl (fun _ => rd_assign ev_c) ?_
  refine sr_nil (hK1 _ _ ?_)
  refine sc_seq fun K2 hK2 => ?_
  refine sc_seq fun K3 hK3 => ?_
  refine sc_text [3, 3, 3, 3, 3, 3, 3, 3, 3, 3, 3, 3, 3, 3, 3, 3, 3] ?_
  refine sr_pu rfl (fun _ => rd_move (ev_t rfl)) ?_
  refine sr_pu rfl (fun _ => rd_seq (ev_t rfl) ev_c) ?_
  refine sr_pu rfl (fun _ => rd_move (ev_t rfl)) ?_
  refine sr_pug rfl rfl rfl (fun _ => rd_move (ev_t rfl)) ?_
  refine sr_pug rfl rfl rfl (fun _ => rd_slen str_string (ev_u rfl id)) ?_
  refine sr_pug rfl rfl rfl (fun _ => rd_gt (ev_u rfl id) ev_c) ?_
  refine sr_pu rfl (fun _ => rd_pick_or (ev_t rfl) (ev_u rfl id)) ?_
  refine sr_pu rfl (fun _ => rd_move (ev_t rfl)) ?_
  refine sr_pug rfl rfl rfl (fun _ => rd_move (ev_t rfl)) ?_
  refine sr_pug rfl rfl rfl (fun _ => rd_slen str_string (ev_u rfl id)) ?_
  refine sr_pug rfl rfl rfl (fun _ => rd_gt (ev_u rfl id) ev_c) ?_
  refine sr_pug rfl rfl rfl (fun _ => rd_move (ev_u rfl id)) ?_
  refine sr_pug rfl rfl rfl (fun _ => rd_move (ev_t rfl)) ?_
  refine sr_pug rfl rfl rfl (fun _ => rd_sidx str_string (ev_u rfl id) ev_c (fun hc => by have := of_decide_eq_true hc.2; omega)) ?_
  refine sr_pug rfl rfl rfl (fun _ => rd_eq (ev_u rfl id) ev_c) ?_
  refine sr_pug rfl rfl rfl (fun _ => rd_pick_and (ev_u rfl id) (ev_u rfl id)) ?_
  refine sr_pu rfl (fun _ => rd_pick_or (ev_t rfl) (ev_u rfl id)) ?_
  refine sr_sub [(0, _, _), (2, _, _), (3, _, _), (22, _, _)] (sub_cons rfl (sub_cons rfl (sub_cons rfl (sub_cons rfl (sub_nil _))))) ?_
  refine sr_nil (hK3 _ _ ?_)
  refine sc_cond (ev_t rfl) (fun h1 => ?_) (fun h1 => ?_)
  · have hN : intOk l = false := by
      rw [intOk]
      rw [decide_eq_false hne, Bool.false_or] at h1
      by_cases h19 : l.length ≤ 19
      · rw [decide_eq_false (by omega : ¬ (19 : Int) < l.length), Bool.false_or] at h1
        replace h1 : (decide ((1 : Int) < l.length) && decide (cAt l 0 = 48)) = true := h1
        rw [h1]; simp
      · rw [decide_eq_false h19]; rfl
    refine sc_seq fun K4 hK4 => ?_
    refine sc_text [3, 3] ?_
    refine sr_pu rfl (fun _ => rd_assign ev_c) ?_
    refine sr_pu rfl (fun _ => rd_assign ev_c) ?_
    refine sr_sub [(0, _, _), (2, _, _), (3, _, _)] (sub_cons rfl (sub_cons rfl (sub_cons rfl (sub_nil _)))) ?_
    refine sr_nil (hK4 _ _ ?_)
    refine sc_ret (t_rets (ts := [2, 3]) (vs := [_, _]) rfl rfl rfl ?_)
    exact ⟨⟨0, by rw [hN]⟩, g⟩
  · have h19 : l.length ≤ 19 := by
      cases h0 : decide ((19 : Int) < l.length)
      · have := of_decide_eq_false h0; omega
      · rw [h0] at h1; simp at h1
    have hN : intOk l = decide ((valN 0 l : Int) < 9223372036854775808) := by
      rw [intOk]
      rw [decide_eq_false hne, decide_eq_false (by omega : ¬ (19 : Int) < l.length), Bool.false_or, Bool.false_or] at h1
      replace h1 : (decide ((1 : Int) < l.length) && decide (cAt l 0 = 48)) = false := h1
      rw [h1, decide_eq_true h19, Bool.not_false, Bool.and_true, Bool.true_and]
    have h10 : (10 : Nat) ^ 19 = 10000000000000000000 := by decide
    refine sc_skip (hK2 _ _ ?_)
    refine sc_sub [(0, _, _), (2, _, _), (3, _, _)] (sub_cons rfl (sub_cons rfl (sub_cons rfl (sub_nil _)))) ?_
    refine sc_seq fun K5 hK5 => ?_
    refine sc_text [3] ?_
    refine sr_pu rfl (fun _ => rd_assign ev_c) ?_
    refine sr_nil (hK5 _ _ ?_)
    refine sc_seq fun K6 hK6 => ?_
    refine sc_seq fun K7 hK7 => ?_
    refine sc_text [3] ?_
    refine sr_pu rfl (fun _ => rd_assign ev_c) ?_
    refine sr_nil (hK7 _ _ ?_)
    refine sc_block ?_
    refine sc_loop (fun (i : Nat) u => i ≤ l.length ∧ G w u) (fun i => [(0, True, Str l), (4, True, .int .u64 (valN 0 (l.take i) : Nat)), (5, True, .int .i64 i)]) (fun i => l.length - i) 0 ⟨by omega, g⟩ (sub_cons rfl (sub_cons rfl (sub_cons rfl (sub_nil _)))) ?_
    rintro i u ⟨hi, g⟩
    refine sc_seq fun K8 hK8 => ?_
    refine sc_seq fun K9 hK9 => ?_
    refine sc_text [3, 3, 3, 3] ?_
    refine sr_pu rfl (fun _ => rd_move (ev_t rfl)) ?_
    refine sr_pu rfl (fun _ => rd_move (ev_t rfl)) ?_
    refine sr_pu rfl (fun _ => rd_slen str_string (ev_t rfl)) ?_
    refine sr_pu rfl (fun _ => rd_lt (ev_t rfl) (ev_t rfl)) ?_
    refine sr_sub [(0, _, _), (4, _, _), (5, _, _), (26, _, _)] (sub_cons rfl (sub_cons rfl (sub_cons rfl (sub_cons rfl (sub_nil _))))) ?_
    refine sr_nil (hK9 _ _ ?_)
    refine sc_cond (ev_t rfl) (fun h2 => ?_) (fun h2 => ?_)
    · replace h2 : i < l.length := by simp only [decide_eq_true_eq] at h2; omega
      obtain ⟨e, hb, hc1, hc2⟩ := valN_take h2 hd
      have hb2 : valN 0 (l.take i) < 10 ^ 18 := Nat.lt_of_lt_of_le hb (Nat.pow_le_pow_right (by decide) (by omega))
      have h18 : (10 : Nat) ^ 18 = 1000000000000000000 := by decide
      rw [h18] at hb2
      refine sc_skip (hK8 _ _ ?_)
      refine sc_sub [(0, _, _), (4, _, _), (5, _, _)] (sub_cons rfl (sub_cons rfl (sub_cons rfl (sub_nil _)))) ?_
      refine sc_seq fun K10 hK10 => ?_
      refine sc_block ?_
      refine sc_seq fun K11 hK11 => ?_
      refine sc_seq fun K12 hK12 => ?_
      refine sc_text [3, 3, 3, 1, 3] ?_
      refine sr_pu rfl (fun _ => rd_move (ev_t rfl)) ?_
      refine sr_pu rfl (fun _ => rd_move (ev_t rfl)) ?_
      refine sr_pu rfl (fun _ => rd_sidx str_string (ev_t rfl) (ev_t rfl) (fun _ => by omega)) ?_
      refine sr_pure rfl (rc_call go_r02_digit ev_f (args_cons (ev_t rfl) (args_nil)) rfl) (rdigit_ok _ _) (fun w32 g32 => ?_)
      have g := g.trans (g32)
      refine sr_pu rfl (fun _ => rd_not (ev_t rfl)) ?_
      refine sr_sub [(0, _, _), (4, _, _), (5, _, _), (33, _, _)] (sub_cons rfl (sub_cons rfl (sub_cons rfl (sub_cons rfl (sub_nil _))))) ?_
      refine sr_nil (hK12 _ _ ?_)
      refine sc_cond (ev_t rfl) (fun h3 => ?_) (fun h3 => ?_)
      · exfalso
        replace h3 : (!digitB (cAt l i)) = true := h3
        rw [digitB, decide_eq_true hc1, decide_eq_true hc2] at h3; cases h3
        done
      · skip
        refine sc_skip (hK11 _ _ ?_)
        refine sc_sub [(0, _, _), (4, _, _), (5, _, _)] (sub_cons rfl (sub_cons rfl (sub_cons rfl (sub_nil _)))) ?_
        refine sc_text [3, 3, 3, 3, 3, 3, 3, 3, 3] ?_
        refine sr_pu rfl (fun _ => rd_move (ev_t rfl)) ?_
        refine sr_pu rfl (fun _ => rd_mulr (r := 10 * ((valN 0 (l.take i) : Nat) : Int)) ev_c (ev_t rfl) (fun hc => u64_id ⟨by omega, by omega⟩)) ?_
        refine sr_pu rfl (fun _ => rd_move (ev_t rfl)) ?_
        refine sr_pu rfl (fun _ => rd_move (ev_t rfl)) ?_
        refine sr_pu rfl (fun _ => rd_sidx str_string (ev_t rfl) (ev_t rfl) (fun _ => by omega)) ?_
        refine sr_pu rfl (fun _ => rd_subr (r := cAt l i - 48) (ev_t rfl) ev_c (fun hc => u8_id ⟨by show 0 ≤ cAt l i - 48; omega, by show cAt l i - 48 ≤ 255; omega⟩)) ?_
        refine sr_pu rfl (fun _ => rd_convr (r := cAt l i - 48) ik_uint8 ik_uint64 (ev_t rfl) (fun hc => u64_id ⟨by omega, by omega⟩)) ?_
        refine sr_pu rfl (fun _ => rd_addr (r := ((valN 0 (l.take (i + 1)) : Nat) : Int)) (ev_t rfl) (ev_t rfl) (fun hc => (by rw [e]; exact u64_id ⟨by omega, by omega⟩))) ?_
        refine sr_pu rfl (fun _ => rd_assign (ev_t rfl)) ?_
        refine sr_sub [(0, _, _), (4, _, _), (5, _, _)] (sub_cons rfl (sub_cons rfl (sub_cons rfl (sub_nil _)))) ?_
        refine sr_nil (hK10 _ _ ?_)
        refine sc_text [3, 3, 3] ?_
        refine sr_pu rfl (fun _ => rd_move (ev_t rfl)) ?_
        refine sr_pu rfl (fun _ => rd_add (ev_t rfl) ev_c (fun _ => by omega)) ?_
        refine sr_pu rfl (fun _ => rd_assign (ev_t rfl)) ?_
        refine sr_sub [(0, _, _), (4, _, _), (5, _, _)] (sub_cons rfl (sub_cons rfl (sub_cons rfl (sub_nil _)))) ?_
        refine sr_nil (fun a ha => ?_)
        exact ⟨i + 1, ha, ⟨h2, g⟩, by omega⟩
    · have hi : i = l.length := by simp only [decide_eq_false_iff_not] at h2; omega
      subst hi
      refine sc_exit rfl (hK6 _ _ ?_)
      refine sc_sub [(4, _, _)] (sub_cons rfl (sub_nil _)) ?_
      refine sc_seq fun K13 hK13 => ?_
      refine sc_text [3, 3, 3, 3, 3, 3] ?_
      refine sr_pu rfl (fun _ => rd_move (ev_t rfl)) ?_
      refine sr_pu rfl (fun _ => rd_conv ik_uint64 ik_int (ev_t rfl)) ?_
      refine sr_pu rfl (fun _ => rd_move (ev_t rfl)) ?_
      refine sr_pu rfl (fun _ => rd_lt (ev_t rfl) ev_c) ?_
      refine sr_pu rfl (fun _ => rd_assign (ev_t rfl)) ?_
      refine sr_pu rfl (fun _ => rd_assign (ev_t rfl)) ?_
      refine sr_nil (hK13 _ _ ?_)
      refine sc_sub [(2, _, _), (3, _, _), (4, _, _), (42, _, _), (43, _, _), (44, _, _), (45, _, _)] (sub_cons rfl (sub_cons rfl (sub_cons rfl (sub_cons rfl (sub_cons rfl (sub_cons rfl (sub_cons rfl (sub_nil _)))))))) ?_
      refine sc_ret (t_rets (ts := [2, 3]) (vs := [_, _]) rfl rfl rfl ?_)
      refine ⟨⟨IntKind.i64.wrap ((valN 0 (l.take l.length) : Nat) : Int), ?_⟩, g⟩
      rw [hN]
      have e : l.take l.length = l := List.take_length
      rw [e]
end Go.Rk
