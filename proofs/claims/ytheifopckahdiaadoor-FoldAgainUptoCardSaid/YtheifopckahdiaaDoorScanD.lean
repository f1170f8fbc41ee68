/- The scanner's run of bytes. Conditions: none. -/
import Derived.Test.YtheifopckahdiaaDoorScanC
namespace Go.Rk
open Go Go.RowKit
/-- How many bytes in a row satisfy a condition. -/
def runN (q : Int → Bool) : List UInt8 → Nat
  | [] => 0
  | c :: l => if q c.toNat = true then runN q l + 1 else 0
theorem runN_step {q : Int → Bool} {s : List UInt8} {k : Nat} (h : k < s.length) (hq : q (s.getD k 0).toNat = true) : runN q (s.drop k) = runN q (s.drop (k + 1)) + 1 := by
  rw [List.drop_eq_getElem_cons h, runN, if_pos (by simpa [List.getD_eq_getElem?_getD, List.getElem?_eq_getElem h] using hq)]
theorem runN_stop {q : Int → Bool} {s : List UInt8} {k : Nat} (h : k < s.length → q (s.getD k 0).toNat = false) : runN q (s.drop k) = 0 := by
  by_cases hk : k < s.length
  · rw [List.drop_eq_getElem_cons hk, runN, if_neg]
    have := h hk
    simp [List.getD_eq_getElem?_getD, List.getElem?_eq_getElem hk] at this
    simp [this]
  · rw [List.drop_of_length_le (by omega)]; rfl
theorem runN_le (q : Int → Bool) (l : List UInt8) : runN q l ≤ l.length := by
  induction l with
  | nil => exact Nat.le_refl _
  | cons c l ih => rw [runN]; split <;> simp <;> omega
theorem run_ok (base b : Nat) (s : List UInt8) (p : Nat) (ts cs : List Tok) (w : World) (hs : Scn base b s p ts cs w) (f : Nat) (q : Int → Bool) (hgo : goFn PP f = true) (hf : ∀ c w, Ret PP f #[.int .u8 c] w fun v w' => v = .bool (q c) ∧ G w w') :
    Ret PP fn_scan_scanner_run #[.pointer (some ⟨b, 0, none⟩), .func (.func f) #[] #[]] w fun v w' => v = .int .i64 (runN q (s.drop p)) ∧ G w w' := by
  obtain ⟨ta, tc, ca, cc, hs, k1, k2, k3, k4⟩ := hs.sa
  have g := G.refl w
  refine ret_of_sc (m := 36) func_scan_scanner_run rfl rfl [(0, True, _), (1, True, _)] (sub_cons rfl (sub_cons rfl (sub_nil _))) ?_
  refine sc_seq fun K1 hK1 => ?_
  refine sc_text [3] ?_
  refine sr_pu rfl (fun _ => rd_assign ev_c) ?_
  refine sr_nil (hK1 _ _ ?_)
  refine sc_seq fun K2 hK2 => ?_
  refine sc_text [3] ?_
  refine sr_pu rfl (fun _ => rd_assign ev_c) ?_
  refine sr_nil (hK2 _ _ ?_)
  refine sc_seq fun K3 hK3 => ?_
  refine sc_block ?_
  refine sc_loop (fun (n : Nat) u => p + n ≤ s.length ∧ runN q (s.drop p) = n + runN q (s.drop (p + n)) ∧ G w u) (fun n => [(0, True, .pointer (some ⟨b, 0, none⟩)), (1, True, .func (.func f) #[] #[]), (5, True, .int .i64 n)]) (fun n => s.length - n) 0 ⟨by omega, by simp, g⟩ (sub_cons rfl (sub_cons rfl (sub_cons rfl (sub_nil _)))) ?_
  rintro n u ⟨hn, he, g⟩
  refine sc_seq fun K4 hK4 => ?_
  refine sc_seq fun K5 hK5 => ?_
  refine sc_draw [3, 3, 3, 0, 3, 3, 3, 3, 3, 0, 3, 3, 3, 3, 3, 3, 3, 0, 3, 3, 3, 0, 3, 3, 3, 1, 3] [true, true, true, true, true, true, true, true, true, true, true, true, true, true, true, true, true, true, true, true, true, true, true, true, true, true, true] [0, 1, 3, 7, 0, 31, 0, 64, 192, 448, 960, 2047, 4095, 8191, 8191, 24575, 57343, 122879, 8191, 270335, 794623, 1843199, 8191, 8134655, 16769023, 33554431, 67108863] mix (by kernel_rfl) ?_
  have g := g.trans (G.drew _)
  refine sr_pu rfl (fun _ => rd_move (ev_t rfl)) ?_
  refine sr_pu rfl (fun _ => rd_nil (ev_t rfl)) ?_
  refine sr_pu rfl (fun _ => rd_field fo_scan_scanner_1 (ev_t rfl)) ?_
  refine sr_rd rfl (rd_load one_int (ev_t rfl) (fun _ => by first | exact (hs.grow g).B.at_ rfl)) ?_
  refine sr_pu rfl (fun _ => rd_move (ev_t rfl)) ?_
  refine sr_pu rfl (fun _ => rd_add (ev_t rfl) (ev_t rfl) (fun _ => by omega)) ?_
  refine sr_pu rfl (fun _ => rd_move (ev_t rfl)) ?_
  refine sr_pu rfl (fun _ => rd_nil (ev_t rfl)) ?_
  refine sr_pu rfl (fun _ => rd_field fo_scan_scanner_0 (ev_t rfl)) ?_
  refine sr_rd rfl (rd_load one_string (ev_t rfl) (fun _ => by first | exact (hs.grow g).B.at_ rfl)) ?_
  refine sr_pu rfl (fun _ => rd_slen str_string (ev_t rfl)) ?_
  refine sr_pu rfl (fun _ => rd_lt (ev_t rfl) (ev_t rfl)) ?_
  refine sr_pu rfl (fun _ => rd_move (ev_t rfl)) ?_
  refine sr_pug rfl rfl rfl (fun _ => rd_move (ev_t rfl)) ?_
  refine sr_pug rfl rfl rfl (fun _ => rd_move (ev_t rfl)) ?_
  refine sr_pug rfl rfl rfl (fun _ => rd_nil (ev_u rfl id)) ?_
  refine sr_pug rfl rfl rfl (fun _ => rd_field fo_scan_scanner_0 (ev_u rfl id)) ?_
  refine sr_rdg rfl rfl rfl (rd_load one_string (ev_u rfl id) (fun _ => by first | exact (hs.grow g).B.at_ rfl)) ?_
  refine sr_pug rfl rfl rfl (fun _ => rd_move (ev_t rfl)) ?_
  refine sr_pug rfl rfl rfl (fun _ => rd_nil (ev_u rfl id)) ?_
  refine sr_pug rfl rfl rfl (fun _ => rd_field fo_scan_scanner_1 (ev_u rfl id)) ?_
  refine sr_rdg rfl rfl rfl (rd_load one_int (ev_u rfl id) (fun _ => by first | exact (hs.grow g).B.at_ rfl)) ?_
  refine sr_pug rfl rfl rfl (fun _ => rd_move (ev_t rfl)) ?_
  refine sr_pug rfl rfl rfl (fun _ => rd_add (ev_u rfl id) (ev_u rfl id) (fun _ => by omega)) ?_
  refine sr_pug rfl rfl rfl (fun _ => rd_sidx str_string (ev_u rfl id) (ev_u rfl id) (fun hc => by have := of_decide_eq_true hc.2; omega)) ?_
  refine sr_pureg rfl rfl rfl (fun _ => (rc_call hgo (ev_u rfl id) (args_cons (ev_u rfl id) (args_nil)) rfl)) (fun hc => hf _ _) (fun w31 g31 => ?_)
  have g := g.trans (g31)
  refine sr_pu rfl (fun _ => rd_pick_and (ev_t rfl) (ev_u rfl id)) ?_
  refine sr_sub [(0, _, _), (1, _, _), (5, _, _), (32, _, _)] (sub_cons rfl (sub_cons rfl (sub_cons rfl (sub_cons rfl (sub_nil _))))) ?_
  refine sr_nil (hK5 _ _ ?_)
  refine sc_cond (ev_t rfl) (fun h1 => ?_) (fun h1 => ?_)
  · simp only [Bool.and_eq_true, decide_eq_true_eq] at h1
    obtain ⟨h1, h2⟩ := h1
    have e : ((p : Int) + n).toNat = p + n := by omega
    rw [e] at h2
    have hst := runN_step (by omega) h2
    refine sc_skip (hK4 _ _ ?_)
    refine sc_sub [(0, _, _), (1, _, _), (5, _, _)] (sub_cons rfl (sub_cons rfl (sub_cons rfl (sub_nil _)))) ?_
    refine sc_block ?_
    refine sc_text [3, 3, 3] ?_
    refine sr_pu rfl (fun _ => rd_move (ev_t rfl)) ?_
    refine sr_pu rfl (fun _ => rd_add (ev_t rfl) ev_c (fun _ => by omega)) ?_
    refine sr_pu rfl (fun _ => rd_assign (ev_t rfl)) ?_
    refine sr_sub [(0, _, _), (1, _, _), (5, _, _)] (sub_cons rfl (sub_cons rfl (sub_cons rfl (sub_nil _)))) ?_
    refine sr_nil (fun a ha => ?_)
    exact ⟨n + 1, ha, ⟨by omega, by rw [he, hst, Nat.add_assoc p n 1]; omega, g⟩, by omega⟩
  · have hst : runN q (s.drop (p + n)) = 0 := runN_stop fun hk => by
      have e : ((p : Int) + n).toNat = p + n := by omega
      rw [e, decide_eq_true (by omega : (p : Int) + n < s.length), Bool.true_and] at h1
      exact h1
    refine sc_exit rfl (hK3 _ _ ?_)
    refine sc_sub [(5, _, _)] (sub_cons rfl (sub_nil _)) ?_
    refine sc_seq fun K6 hK6 => ?_
    refine sc_text [3, 3] ?_
    refine sr_pu rfl (fun _ => rd_move (ev_t rfl)) ?_
    refine sr_pu rfl (fun _ => rd_assign (ev_t rfl)) ?_
    refine sr_nil (hK6 _ _ ?_)
    refine sc_sub [(4, _, _), (5, _, _), (35, _, _)] (sub_cons rfl (sub_cons rfl (sub_cons rfl (sub_nil _)))) ?_
    refine sc_ret (t_ret1 rfl rfl ?_)
    refine ⟨?_, g⟩
    rw [he, hst]; rfl
end Go.Rk
