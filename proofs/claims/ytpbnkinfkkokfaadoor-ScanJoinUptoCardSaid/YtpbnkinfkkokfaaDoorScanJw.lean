/- The reference's Join and Alike. Conditions: none. -/
import Derived.Test.YtpbnkinfkkokfaaDoorScanJl
namespace Go.Rk
open Go Go.RowKit
theorem rjoin_ok (l : List Tok) (v : Value) (w : World) (hl : (joinF l).length < 100000000) (hR : RowT l v w) (hlen : l.length < 100000000) : Ret PP fn_r02_Join #[v] w fun r w' => r = Str (joinF l) ∧ G w w' := by
  obtain ⟨x, c, rfl, hrow⟩ := hR
  have g := G.refl w
  refine ret_of_sc (m := 23) func_r02_Join rfl rfl [(0, True, _)] (sub_cons rfl (sub_nil _)) ?_
  refine sc_seq fun K1 hK1 => ?_
  refine sc_text [3] ?_
  refine sr_pu rfl (fun _ => rd_assign ev_c) ?_
  refine sr_nil (hK1 _ _ ?_)
  refine sc_seq fun K2 hK2 => ?_
  refine sc_text [3] ?_
  refine sr_pu rfl (fun _ => rd_assign ev_c) ?_
  refine sr_nil (hK2 _ _ ?_)
  refine sc_seq fun K3 hK3 => ?_
  refine sc_seq fun K4 hK4 => ?_
  refine sc_text [3] ?_
  refine sr_pu rfl (fun _ => rd_assign ev_c) ?_
  refine sr_nil (hK4 _ _ ?_)
  refine sc_block ?_
  refine sc_loop (fun (i : Nat) u => i ≤ l.length ∧ G w u) (fun i => [(0, True, .slice x l.length c), (3, True, Str (joinF (l.take i))), (4, True, .int .i64 i)]) (fun i => l.length - i) 0
    ⟨by omega, g⟩ (sub_cons rfl (sub_cons rfl (sub_cons rfl (sub_nil _)))) ?_
  rintro i u ⟨hi, g⟩
  refine sc_seq fun K5 hK5 => ?_
  refine sc_seq fun K6 hK6 => ?_
  refine sc_text [3, 3, 3, 3] ?_
  refine sr_pu rfl (fun _ => rd_move (ev_t rfl)) ?_
  refine sr_pu rfl (fun _ => rd_move (ev_t rfl)) ?_
  refine sr_pu rfl (fun _ => rd_len el_sl_api_Token (ev_t rfl)) ?_
  refine sr_pu rfl (fun _ => rd_lt (ev_t rfl) (ev_t rfl)) ?_
  refine sr_sub [(0, _, _), (3, _, _), (4, _, _), (8, _, _)] (sub_cons rfl (sub_cons rfl (sub_cons rfl (sub_cons rfl (sub_nil _))))) ?_
  refine sr_nil (hK6 _ _ ?_)
  refine sc_cond (ev_t rfl) (fun h1 => ?_) (fun h1 => ?_)
  · replace h1 : i < l.length := by simp only [decide_eq_true_eq] at h1; omega
    obtain ⟨bx, ox, rfl, hr⟩ := hrow (by omega)
    have hrt := (row_tok hr h1).grow g
    have htk := take_getD h1
    have hbound := joinF_take_le l (i + 1)
    refine sc_skip (hK5 _ _ ?_)
    refine sc_sub [(0, _, _), (3, _, _), (4, _, _)] (sub_cons rfl (sub_cons rfl (sub_cons rfl (sub_nil _)))) ?_
    refine sc_seq fun K7 hK7 => ?_
    refine sc_block ?_
    refine sc_seq fun K8 hK8 => ?_
    refine sc_seq fun K9 hK9 => ?_
    refine sc_text [3, 3] ?_
    refine sr_pu rfl (fun _ => rd_move (ev_t rfl)) ?_
    refine sr_pu rfl (fun _ => rd_gt (ev_t rfl) ev_c) ?_
    refine sr_sub [(0, _, _), (3, _, _), (4, _, _), (12, _, _)] (sub_cons rfl (sub_cons rfl (sub_cons rfl (sub_cons rfl (sub_nil _))))) ?_
    refine sr_nil (hK9 _ _ ?_)
    refine sc_cond (ev_t rfl) (fun h2 => ?_) (fun h2 => ?_)
    · have hne : l.take i ≠ [] := by intro h; have h := congrArg List.length h; rw [List.length_take, List.length_nil] at h; have : (0 : Int) < i := of_decide_eq_true h2; omega
      rw [htk, joinF_snoc hne, List.length_append, List.length_append] at hbound
      refine sc_text [3, 3, 3] ?_
      refine sr_pu rfl (fun _ => rd_move (ev_t rfl)) ?_
      refine sr_pu rfl (fun _ => rd_scat (ev_t rfl) ev_c (fun _ => by show _ + 1 ≤ 9223372036854775807; omega)) ?_
      refine sr_pu rfl (fun _ => rd_assign (ev_t rfl)) ?_
      refine sr_sub [(0, _, _), (3, _, _), (4, _, _)] (sub_cons rfl (sub_cons rfl (sub_cons rfl (sub_nil _)))) ?_
      refine sr_nil (hK8 _ _ ?_)
      refine sc_text [3, 3, 3, 3, 3, 0, 3, 3] ?_
      refine sr_pu rfl (fun _ => rd_move (ev_t rfl)) ?_
      refine sr_pu rfl (fun _ => rd_move (ev_t rfl)) ?_
      refine sr_pu rfl (fun _ => rd_move (ev_t rfl)) ?_
      refine sr_pu rfl (fun _ => rd_idx el_sl_api_Token (ev_t rfl) (ev_t rfl) (fun _ => by omega)) ?_
      refine sr_pu rfl (fun _ => rd_field fo_api_Token_1 (ev_t rfl)) ?_
      refine sr_rd rfl (rd_load one_string (ev_t rfl) (fun _ => hrt.get 1 rfl rfl)) ?_
      refine sr_pu rfl (fun _ => rd_scat (ev_t rfl) (ev_t rfl) (fun _ => by first | omega | (rw [List.length_append]; rw [List.length_singleton] at hbound; show _ + 1 + _ ≤ 9223372036854775807; omega))) ?_
      refine sr_pu rfl (fun _ => rd_assign (ev_t rfl)) ?_
      refine sr_sub [(0, _, _), (3, _, _), (4, _, _)] (sub_cons rfl (sub_cons rfl (sub_cons rfl (sub_nil _)))) ?_
      refine sr_nil (hK7 _ _ ?_)
      refine sc_text [3, 3, 3] ?_
      refine sr_pu rfl (fun _ => rd_move (ev_t rfl)) ?_
      refine sr_pu rfl (fun _ => rd_add (ev_t rfl) ev_c (fun _ => by omega)) ?_
      refine sr_pu rfl (fun _ => rd_assign (ev_t rfl)) ?_
      refine sr_sub [(0, _, _), (3, _, _), (4, _, _)] (sub_cons rfl (sub_cons rfl (sub_cons rfl (sub_nil _)))) ?_
      refine sr_nil (fun a ha => ?_)
      exact ⟨i + 1, by rw [htk, joinF_snoc hne]; exact ha, ⟨h1, g⟩, by omega⟩
    · have hi0 : i = 0 := by simp only [decide_eq_false_iff_not] at h2; omega
      subst hi0
      have hj : joinF (l.take (0 + 1)) = joinF (l.take 0) ++ (l.getD 0 tok0).text := by rw [htk]; simp [joinF]
      rw [hj, List.length_append] at hbound
      refine sc_skip (hK8 _ _ ?_)
      refine sc_sub [(0, _, _), (3, _, _), (4, _, _)] (sub_cons rfl (sub_cons rfl (sub_cons rfl (sub_nil _)))) ?_
      refine sc_text [3, 3, 3, 3, 3, 0, 3, 3] ?_
      refine sr_pu rfl (fun _ => rd_move (ev_t rfl)) ?_
      refine sr_pu rfl (fun _ => rd_move (ev_t rfl)) ?_
      refine sr_pu rfl (fun _ => rd_move (ev_t rfl)) ?_
      refine sr_pu rfl (fun _ => rd_idx el_sl_api_Token (ev_t rfl) (ev_t rfl) (fun _ => by omega)) ?_
      refine sr_pu rfl (fun _ => rd_field fo_api_Token_1 (ev_t rfl)) ?_
      refine sr_rd rfl (rd_load one_string (ev_t rfl) (fun _ => hrt.get 1 rfl rfl)) ?_
      refine sr_pu rfl (fun _ => rd_scat (ev_t rfl) (ev_t rfl) (fun _ => by first | omega | (rw [List.length_append]; rw [List.length_singleton] at hbound; show _ + 1 + _ ≤ 9223372036854775807; omega))) ?_
      refine sr_pu rfl (fun _ => rd_assign (ev_t rfl)) ?_
      refine sr_sub [(0, _, _), (3, _, _), (4, _, _)] (sub_cons rfl (sub_cons rfl (sub_cons rfl (sub_nil _)))) ?_
      refine sr_nil (hK7 _ _ ?_)
      refine sc_text [3, 3, 3] ?_
      refine sr_pu rfl (fun _ => rd_move (ev_t rfl)) ?_
      refine sr_pu rfl (fun _ => rd_add (ev_t rfl) ev_c (fun _ => by omega)) ?_
      refine sr_pu rfl (fun _ => rd_assign (ev_t rfl)) ?_
      refine sr_sub [(0, _, _), (3, _, _), (4, _, _)] (sub_cons rfl (sub_cons rfl (sub_cons rfl (sub_nil _)))) ?_
      refine sr_nil (fun a ha => ?_)
      exact ⟨0 + 1, by rw [hj]; exact ha, ⟨h1, g⟩, by omega⟩
  · have hi : i = l.length := by simp only [decide_eq_false_iff_not] at h1; omega
    subst hi
    refine sc_exit rfl (hK3 _ _ ?_)
    refine sc_sub [(3, _, _)] (sub_cons rfl (sub_nil _)) ?_
    refine sc_seq fun K10 hK10 => ?_
    refine sc_text [3, 3] ?_
    refine sr_pu rfl (fun _ => rd_move (ev_t rfl)) ?_
    refine sr_pu rfl (fun _ => rd_assign (ev_t rfl)) ?_
    refine sr_nil (hK10 _ _ ?_)
    refine sc_sub [(2, _, _), (3, _, _), (22, _, _)] (sub_cons rfl (sub_cons rfl (sub_cons rfl (sub_nil _)))) ?_
    refine sc_ret (t_ret1 rfl rfl ?_)
    refine ⟨?_, g⟩
    rw [List.take_length]
def alikeB (a b : List Tok) : Bool := decide (a.map kt = b.map kt)
theorem alike_at {a b : List Tok} (h : a.map kt = b.map kt) (i : Nat) : (a.getD i tok0).kind = (b.getD i tok0).kind ∧ (a.getD i tok0).text = (b.getD i tok0).text := by
  have h1 : (a.map kt)[i]? = (b.map kt)[i]? := by rw [h]
  simp only [List.getElem?_map] at h1
  simp only [List.getD_eq_getElem?_getD]
  cases ha : a[i]? with
  | none =>
    rw [ha] at h1
    cases hb : b[i]? with
    | none => exact ⟨rfl, rfl⟩
    | some y => rw [hb] at h1; cases h1
  | some x =>
    rw [ha] at h1
    cases hb : b[i]? with
    | none => rw [hb] at h1; cases h1
    | some y => rw [hb] at h1; simp only [Option.map_some, Option.some.injEq, kt, Prod.mk.injEq] at h1; exact h1
/-- Alike, at lists that are alike. -/
theorem alike_ok (a b : List Tok) (va vb : Value) (w : World) (ha : RowT a va w) (hb : RowT b vb w) (hla : a.length < 100000000) (hab : a.map kt = b.map kt) : Ret PP fn_r02_Alike #[va, vb] w fun v w' => v = .bool true ∧ G w w' := by
  obtain ⟨xa, ca, rfl, hra⟩ := ha
  obtain ⟨xb, cb, rfl, hrb⟩ := hb
  have hl : a.length = b.length := by have := congrArg List.length hab; simpa using this
  have g := G.refl w
  refine ret_of_sc (m := 41) func_r02_Alike rfl rfl [(0, True, _), (1, True, _)] (sub_cons rfl (sub_cons rfl (sub_nil _))) ?_
  refine sc_seq fun K1 hK1 => ?_
  refine sc_text [3] ?_
  refine sr_pu rfl (fun _ => rd_assign ev_c) ?_
  refine sr_nil (hK1 _ _ ?_)
  refine sc_seq fun K2 hK2 => ?_
  refine sc_seq fun K3 hK3 => ?_
  refine sc_text [3, 3, 3, 3, 3] ?_
  refine sr_pu rfl (fun _ => rd_move (ev_t rfl)) ?_
  refine sr_pu rfl (fun _ => rd_len el_sl_api_Token (ev_t rfl)) ?_
  refine sr_pu rfl (fun _ => rd_move (ev_t rfl)) ?_
  refine sr_pu rfl (fun _ => rd_len el_sl_api_Token (ev_t rfl)) ?_
  refine sr_pu rfl (fun _ => rd_ne (ev_t rfl) (ev_t rfl)) ?_
  refine sr_sub [(0, _, _), (1, _, _), (4, _, _), (10, _, _)] (sub_cons rfl (sub_cons rfl (sub_cons rfl (sub_cons rfl (sub_nil _))))) ?_
  refine sr_nil (hK3 _ _ ?_)
  refine sc_cond (ev_t rfl) (fun h1 => ?_) (fun h1 => ?_)
  · exfalso; simp at h1; omega
    done
  · skip
    refine sc_skip (hK2 _ _ ?_)
    refine sc_sub [(0, _, _), (1, _, _), (4, _, _)] (sub_cons rfl (sub_cons rfl (sub_cons rfl (sub_nil _)))) ?_
    refine sc_seq fun K4 hK4 => ?_
    refine sc_seq fun K5 hK5 => ?_
    refine sc_text [3] ?_
    refine sr_pu rfl (fun _ => rd_assign ev_c) ?_
    refine sr_nil (hK5 _ _ ?_)
    refine sc_block ?_
    refine sc_loop (fun (i : Nat) u => i ≤ a.length ∧ G w u) (fun i => [(0, True, .slice xa a.length ca), (1, True, .slice xb b.length cb), (5, True, .int .i64 i)]) (fun i => a.length - i) 0 ⟨by omega, g⟩ (sub_cons rfl (sub_cons rfl (sub_cons rfl (sub_nil _)))) ?_
    rintro i u ⟨hi, g⟩
    refine sc_seq fun K6 hK6 => ?_
    refine sc_seq fun K7 hK7 => ?_
    refine sc_text [3, 3, 3, 3] ?_
    refine sr_pu rfl (fun _ => rd_move (ev_t rfl)) ?_
    refine sr_pu rfl (fun _ => rd_move (ev_t rfl)) ?_
    refine sr_pu rfl (fun _ => rd_len el_sl_api_Token (ev_t rfl)) ?_
    refine sr_pu rfl (fun _ => rd_lt (ev_t rfl) (ev_t rfl)) ?_
    refine sr_sub [(0, _, _), (1, _, _), (5, _, _), (14, _, _)] (sub_cons rfl (sub_cons rfl (sub_cons rfl (sub_cons rfl (sub_nil _))))) ?_
    refine sr_nil (hK7 _ _ ?_)
    refine sc_cond (ev_t rfl) (fun h2 => ?_) (fun h2 => ?_)
    · replace h2 : i < a.length := by simp only [decide_eq_true_eq] at h2; omega
      obtain ⟨b1, o1, rfl, r1⟩ := hra (by omega)
      obtain ⟨b2, o2, rfl, r2⟩ := hrb (by omega)
      have t1 := row_tok r1 h2
      have t2 := row_tok r2 (i := i) (by omega)
      obtain ⟨k1, k2⟩ := alike_at hab i
      refine sc_skip (hK6 _ _ ?_)
      refine sc_sub [(0, _, _), (1, _, _), (5, _, _)] (sub_cons rfl (sub_cons rfl (sub_cons rfl (sub_nil _)))) ?_
      refine sc_seq fun K8 hK8 => ?_
      refine sc_block ?_
      refine sc_seq fun K9 hK9 => ?_
      refine sc_draw [3, 3, 3, 3, 0, 3, 3, 3, 3, 0, 3, 3, 3, 3, 3, 3, 0, 3, 3, 3, 3, 0, 3, 3] [true, true, true, true, true, true, true, true, true, true, true, true, true, true, true, true, true, true, true, true, true, true, true, true] [0, 0, 3, 7, 15, 0, 0, 96, 224, 480, 1023, 2047, 4095, 4095, 16383, 32767, 65535, 4095, 4095, 397311, 921599, 1970175, 4194303, 8388607] mix (by kernel_rfl) ?_
      have g := g.trans (G.drew _)
      refine sr_pu rfl (fun _ => rd_move (ev_t rfl)) ?_
      refine sr_pu rfl (fun _ => rd_move (ev_t rfl)) ?_
      refine sr_pu rfl (fun _ => rd_idx el_sl_api_Token (ev_t rfl) (ev_t rfl) (fun _ => by omega)) ?_
      refine sr_pu rfl (fun _ => rd_field fo_api_Token_0 (ev_t rfl)) ?_
      refine sr_rd rfl (rd_load one_int (ev_t rfl) (fun _ => (t1.grow g).get 0 rfl rfl)) ?_
      refine sr_pu rfl (fun _ => rd_move (ev_t rfl)) ?_
      refine sr_pu rfl (fun _ => rd_move (ev_t rfl)) ?_
      refine sr_pu rfl (fun _ => rd_idx el_sl_api_Token (ev_t rfl) (ev_t rfl) (fun _ => by omega)) ?_
      refine sr_pu rfl (fun _ => rd_field fo_api_Token_0 (ev_t rfl)) ?_
      refine sr_rd rfl (rd_load one_int (ev_t rfl) (fun _ => (t2.grow g).get 0 rfl rfl)) ?_
      refine sr_pu rfl (fun _ => rd_ne (ev_t rfl) (ev_t rfl)) ?_
      refine sr_pu rfl (fun _ => rd_move (ev_t rfl)) ?_
      refine sr_pug rfl rfl rfl (fun _ => rd_move (ev_t rfl)) ?_
      refine sr_pug rfl rfl rfl (fun _ => rd_move (ev_t rfl)) ?_
      refine sr_pug rfl rfl rfl (fun _ => rd_idx el_sl_api_Token (ev_u rfl id) (ev_u rfl id) (fun _ => by omega)) ?_
      refine sr_pug rfl rfl rfl (fun _ => rd_field fo_api_Token_1 (ev_u rfl id)) ?_
      refine sr_rdg rfl rfl rfl (rd_load one_string (ev_u rfl id) (fun _ => (t1.grow g).get 1 rfl rfl)) ?_
      refine sr_pug rfl rfl rfl (fun _ => rd_move (ev_t rfl)) ?_
      refine sr_pug rfl rfl rfl (fun _ => rd_move (ev_t rfl)) ?_
      refine sr_pug rfl rfl rfl (fun _ => rd_idx el_sl_api_Token (ev_u rfl id) (ev_u rfl id) (fun _ => by omega)) ?_
      refine sr_pug rfl rfl rfl (fun _ => rd_field fo_api_Token_1 (ev_u rfl id)) ?_
      refine sr_rdg rfl rfl rfl (rd_load one_string (ev_u rfl id) (fun _ => (t2.grow g).get 1 rfl rfl)) ?_
      refine sr_pug rfl rfl rfl (fun _ => rd_sne (ev_u rfl id) (ev_u rfl id)) ?_
      refine sr_pu rfl (fun _ => rd_pick_or (ev_t rfl) (ev_u rfl id)) ?_
      refine sr_sub [(0, _, _), (1, _, _), (5, _, _), (40, _, _)] (sub_cons rfl (sub_cons rfl (sub_cons rfl (sub_cons rfl (sub_nil _))))) ?_
      refine sr_nil (hK9 _ _ ?_)
      refine sc_cond (ev_t rfl) (fun h3 => ?_) (fun h3 => ?_)
      · exfalso
        have h3 : ((!decide ((a.getD i tok0).kind = (b.getD i tok0).kind)) || (!decide ((a.getD i tok0).text = (b.getD i tok0).text))) = true := h3
        rw [decide_eq_true k1, decide_eq_true k2] at h3; cases h3
        done
      · skip
        refine sc_skip (hK8 _ _ ?_)
        refine sc_sub [(0, _, _), (1, _, _), (5, _, _)] (sub_cons rfl (sub_cons rfl (sub_cons rfl (sub_nil _)))) ?_
        refine sc_text [3, 3, 3] ?_
        refine sr_pu rfl (fun _ => rd_move (ev_t rfl)) ?_
        refine sr_pu rfl (fun _ => rd_add (ev_t rfl) ev_c (fun _ => by omega)) ?_
        refine sr_pu rfl (fun _ => rd_assign (ev_t rfl)) ?_
        refine sr_sub [(0, _, _), (1, _, _), (5, _, _)] (sub_cons rfl (sub_cons rfl (sub_cons rfl (sub_nil _)))) ?_
        refine sr_nil (fun a ha => ?_)
        exact ⟨i + 1, ha, ⟨h2, g⟩, by omega⟩
    · (try simp only [bsimp] at h2)
      refine sc_exit rfl (hK4 _ _ ?_)
      refine sc_sub [] (sub_nil _) ?_
      refine sc_seq fun K10 hK10 => ?_
      refine sc_text [3] ?_
      refine sr_pu rfl (fun _ => rd_assign ev_c) ?_
      refine sr_nil (hK10 _ _ ?_)
      refine sc_ret (t_ret1 rfl rfl ?_)
      exact ⟨rfl, g⟩
end Go.Rk
