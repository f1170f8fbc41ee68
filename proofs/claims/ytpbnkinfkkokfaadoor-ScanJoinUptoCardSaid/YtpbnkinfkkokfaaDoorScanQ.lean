/- What a step appends; the law about places. Conditions: what start-up laid. -/
import Derived.Test.YtpbnkinfkkokfaaDoorScanN
namespace Go.Rk
open Go Go.RowKit
/-- A token stands at a place of a text. -/
def Stands (s : List UInt8) (p : Nat) (t : Tok) : Prop := t.pos = (p : Int) ∧ 0 < t.text.length ∧ p + t.text.length ≤ s.length ∧ ((s.drop p).take t.text.length = t.text ∨ (t.text = [59] ∧ t.kind = 4 ∧ cAt s p = 10))
theorem nextF_app {s : List UInt8} {p : Nat} (ts cs : List Tok) (h : p < s.length) (he : (nextF s p ts cs).2.2.2 = 0) :
    ((nextF s p ts cs).2.1 = ts) ∨ ∃ t, (nextF s p ts cs).2.1 = ts ++ [t] ∧ Stands s p t ∧ (nextF s p ts cs).1 = p + t.text.length := by
  have hlen : ∀ n, p + n ≤ s.length → ((s.drop p).take n).length = n := fun n hn => by rw [List.length_take, List.length_drop]; omega
  by_cases hb : (decide (cAt s p = 10) || ((decide (cAt s p = 32) || decide (cAt s p = 9)) || decide (cAt s p = 13))) = false
  · have hF := nextF_tok ts cs h hb
    have hle := nextF_le ts cs h
    have hlt := nextF_lt h he
    rw [hF] at he hle hlt ⊢
    cases h8 : !decide ((nextR s p).2 = 0)
    · rw [h8, cond_false] at he hle hlt
      rw [cond_false]
      cases h9 : decide ((nextR s p).1.kind = 5)
      · rw [h9, cond_false] at hle hlt
        rw [cond_false]
        right
        refine ⟨(nextR s p).1, rfl, ⟨?_, by simp only at hlt; omega, hle, .inl ?_⟩, rfl⟩
        · revert h8
          unfold nextR
          cases letterB (cAt s p) <;> simp only [cond_true, cond_false]
          · cases digitB (cAt s p) <;> simp only [cond_true, cond_false]
            · cases (decide (cAt s p = 47) && decide ((p : Int) + 1 < s.length)) && decide (cAt s (p + 1) = 47) <;> simp only [cond_true, cond_false]
              · cases decide ((s.drop p).take (opLenR (s.drop p)) = []) <;> simp
              · simp
            · cases (!intOk ((s.drop p).take (runN digitB (s.drop p)))) || (decide ((p : Int) + runN digitB (s.drop p) < s.length) && letterB (cAt s (p + runN digitB (s.drop p)))) <;> simp
          · simp
        · revert h8
          unfold nextR
          cases letterB (cAt s p) <;> simp only [cond_true, cond_false]
          · cases digitB (cAt s p) <;> simp only [cond_true, cond_false]
            · cases (decide (cAt s p = 47) && decide ((p : Int) + 1 < s.length)) && decide (cAt s (p + 1) = 47) <;> simp only [cond_true, cond_false]
              · cases decide ((s.drop p).take (opLenR (s.drop p)) = []) <;> simp
              · simp
            · cases (!intOk ((s.drop p).take (runN digitB (s.drop p)))) || (decide ((p : Int) + runN digitB (s.drop p) < s.length) && letterB (cAt s (p + runN digitB (s.drop p)))) <;> simp
          · simp
      · left; rfl
    · rw [h8, cond_true] at he
      simp only at he
      rw [he] at h8; cases h8
  · rw [Bool.not_eq_false, Bool.or_eq_true] at hb
    rcases Bool.eq_false_or_eq_true (decide (cAt s p = 10)) with h10 | h10
    · have hst : nextF s p ts cs = (p + 1, nlTs p ts, cs, 0) := by unfold nextF; rw [h10]; rfl
      rw [hst, nlTs_eq]
      cases decide ((0 : Int) < ts.length) && endsT (lastT ts)
      · left; rfl
      · right
        exact ⟨⟨4, [59], p⟩, rfl, ⟨rfl, Nat.zero_lt_one, h, .inr ⟨rfl, rfl, of_decide_eq_true h10⟩⟩, rfl⟩
    · rw [h10] at hb
      have hbl : ((decide (cAt s p = 32) || decide (cAt s p = 9)) || decide (cAt s p = 13)) = true := by rcases hb with hb | hb; cases hb; exact hb
      left; unfold nextF; rw [h10, hbl]; rfl
/-- Where a list of tokens ends. -/
def endOf (l : List Tok) : Int := match l.getLast? with
  | some t => t.pos + t.text.length
  | none => 0
theorem endOf_snoc (l : List Tok) (t : Tok) : endOf (l ++ [t]) = t.pos + t.text.length := by simp [endOf]
def InOrder (s : List UInt8) (ts : List Tok) : Prop := ∀ i, i < ts.length → ∃ q, Stands s q (ts.getD i tok0) ∧ endOf (ts.take i) ≤ q
theorem inOrder_snoc {s : List UInt8} {ts : List Tok} {t : Tok} {q : Nat} (h : InOrder s ts) (ht : Stands s q t) (hq : endOf ts ≤ q) : InOrder s (ts ++ [t]) := by
  intro i hi
  rw [List.length_append, List.length_singleton] at hi
  by_cases hi2 : i < ts.length
  · obtain ⟨q', h1, h2⟩ := h i hi2
    refine ⟨q', ?_, ?_⟩
    · simpa [List.getD_eq_getElem?_getD, List.getElem?_append_left hi2] using h1
    · rw [List.take_append_of_le_length (by omega)]; exact h2
  · have : i = ts.length := by omega
    subst this
    refine ⟨q, ?_, ?_⟩
    · simpa [List.getD_eq_getElem?_getD] using ht
    · rw [List.take_left']; exact hq; rfl
theorem goF_order (s : List UInt8) : ∀ (f p : Nat) (ts cs : List Tok), InOrder s ts → endOf ts ≤ p → (goF s f p ts cs).2.2.2 = 0 → InOrder s (goF s f p ts cs).2.1 := by
  intro f
  induction f with
  | zero => intro p ts cs h1 h2 _; exact h1
  | succ f ih =>
    intro p ts cs h1 h2 he
    rw [goF] at he ⊢
    cases hp : decide (p < s.length)
    · exact h1
    · have hp' : p < s.length := of_decide_eq_true hp
      rw [hp, cond_true] at he
      rw [cond_true]
      cases h0 : decide ((nextF s p ts cs).2.2.2 = 0)
      · rw [h0, cond_false] at he
        rw [he] at h0; cases h0
      · rw [h0, cond_true] at he
        rw [cond_true]
        have e0 := of_decide_eq_true h0
        have hlt := nextF_lt hp' e0
        rcases nextF_app ts cs hp' e0 with h | ⟨t, h, hs, hq⟩
        · rw [h] at he ⊢
          exact ih _ _ _ h1 (by omega) he
        · rw [h] at he ⊢
          refine ih _ _ _ (inOrder_snoc h1 hs h2) ?_ he
          rw [endOf_snoc, hs.1, hq]; omega
theorem scanF_order (s : List UInt8) (h : s.length ≤ 20000) (he : (scanF s).2.2 = 0) : InOrder s (scanF s).1 := by
  rw [scanF, allF, decide_eq_false (by omega : ¬ (20000 : Int) < s.length), cond_false] at he ⊢
  cases h0 : decide ((goF s s.length 0 [] []).2.2.2 = 0)
  · rw [h0] at he
    simp only [Bool.not_false, cond_true] at he
    rw [he] at h0; cases h0
  · simp only [Bool.not_true, cond_false]
    exact goF_order s s.length 0 [] [] (fun i hi => by cases hi) (by show (0 : Int) ≤ 0; omega) (of_decide_eq_true h0)
theorem places_law (s : List UInt8) (w : World) (hL : Laid w) (hb3 : 3 ≤ w.heap.size) : Ret PP fn_l02_ScanPlaces #[Str s] w fun v w' => v = .bool true ∧ G w w' := by
  have g := G.refl w
  refine ret_of_sc (m := 89) func_l02_ScanPlaces rfl rfl [(0, True, _)] (sub_cons rfl (sub_nil _)) ?_
  refine sc_seq fun K1 hK1 => ?_
  refine sc_text [3] ?_
  refine sr_pu rfl (fun _ => rd_assign ev_c) ?_
  refine sr_nil (hK1 _ _ ?_)
  refine sc_seq fun K2 hK2 => ?_
  refine sc_seq fun K3 hK3 => ?_
  refine sc_text [1, 3] ?_
  refine sr_pure rfl (rc_call go_l02_awake ev_f (args_nil) rfl) (awake_ok _ (hL.grow g) (by have := g.size; omega)) (fun w10 g10 => ?_)
  have g := g.trans (g10)
  refine sr_pu rfl (fun _ => rd_not (ev_t rfl)) ?_
  refine sr_sub [(0, _, _), (2, _, _), (11, _, _)] (sub_cons rfl (sub_cons rfl (sub_cons rfl (sub_nil _)))) ?_
  refine sr_nil (hK3 _ _ ?_)
  refine sc_false (ev_t rfl) ?_
  refine sc_skip (hK2 _ _ ?_)
  refine sc_sub [(0, _, _), (2, _, _)] (sub_cons rfl (sub_cons rfl (sub_nil _))) ?_
  refine sc_seq fun K4 hK4 => ?_
  refine sc_seq fun K5 hK5 => ?_
  refine sc_text [3, 3, 3] ?_
  refine sr_pu rfl (fun _ => rd_move (ev_t rfl)) ?_
  refine sr_pu rfl (fun _ => rd_slen str_string (ev_t rfl)) ?_
  refine sr_pu rfl (fun _ => rd_gt (ev_t rfl) ev_c) ?_
  refine sr_sub [(0, _, _), (2, _, _), (14, _, _)] (sub_cons rfl (sub_cons rfl (sub_cons rfl (sub_nil _)))) ?_
  refine sr_nil (hK5 _ _ ?_)
  refine sc_cond (ev_t rfl) (fun h2 => ?_) (fun h2 => ?_)
  · (try simp only [bsimp] at h2)
    refine sc_seq fun K6 hK6 => ?_
    refine sc_text [3] ?_
    refine sr_pu rfl (fun _ => rd_assign ev_c) ?_
    refine sr_sub [(0, _, _), (2, _, _)] (sub_cons rfl (sub_cons rfl (sub_nil _))) ?_
    refine sr_nil (hK6 _ _ ?_)
    refine sc_ret (t_ret1 rfl rfl ?_)
    exact ⟨rfl, g⟩
  · have hs : s.length ≤ 600 := by simp only [decide_eq_false_iff_not] at h2; omega
    refine sc_skip (hK4 _ _ ?_)
    refine sc_sub [(0, _, _), (2, _, _)] (sub_cons rfl (sub_cons rfl (sub_nil _))) ?_
    refine sc_seq fun K7 hK7 => ?_
    refine sc_text [3, 1, 3, 3, 3, 3, 3, 3, 3] ?_
    refine sr_pu rfl (fun _ => rd_move (ev_t rfl)) ?_
    refine sr_call rfl (rc_call go_scan_Scan ev_f (args_cons (ev_t rfl) (args_nil)) rfl) (scan_ok s _ (hL.grow g) (by have := g.size; omega)) ?_
    rintro v17 w17 ⟨l1, rfl, hT1, g17⟩
    refine ⟨fun _ => g17, ?_⟩
    have g := g.trans g17
    have hlen := scanF_len s (by omega)
    obtain ⟨x1, c1, rfl, hr1⟩ := hT1.row
    refine sr_pu rfl (fun _ => rd_move (ev_t rfl)) ?_
    refine sr_pu rfl (fun _ => rd_extract (ev_t rfl) rfl) ?_
    refine sr_pu rfl (fun _ => rd_extract (ev_t rfl) rfl) ?_
    refine sr_pu rfl (fun _ => rd_extract (ev_t rfl) rfl) ?_
    refine sr_pu rfl (fun _ => rd_assign (ev_t rfl)) ?_
    refine sr_pu rfl (fun _ => rd_assign (ev_t rfl)) ?_
    refine sr_pu rfl (fun _ => rd_assign (ev_t rfl)) ?_
    refine sr_sub [(0, _, _), (2, _, _), (3, _, _), (5, _, _)] (sub_cons rfl (sub_cons rfl (sub_cons rfl (sub_cons rfl (sub_nil _))))) ?_
    refine sr_nil (hK7 _ _ ?_)
    refine sc_seq fun K8 hK8 => ?_
    refine sc_seq fun K9 hK9 => ?_
    refine sc_text [3, 3] ?_
    refine sr_pu rfl (fun _ => rd_move (ev_t rfl)) ?_
    refine sr_pu rfl (fun _ => rd_ne (ev_t rfl) ev_c) ?_
    refine sr_sub [(0, _, _), (2, _, _), (3, _, _), (22, _, _)] (sub_cons rfl (sub_cons rfl (sub_cons rfl (sub_cons rfl (sub_nil _))))) ?_
    refine sr_nil (hK9 _ _ ?_)
    refine sc_cond (ev_t rfl) (fun h3 => ?_) (fun h3 => ?_)
    · have h0 : (scanF s).1.length = 0 := by
        rw [scanF] at h3 ⊢
        cases hq : !decide ((allF s).2.2.2 = 0)
        · rw [hq, cond_false] at h3; cases h3
        · rfl
      refine sc_seq fun K10 hK10 => ?_
      refine sc_text [3, 3, 3, 3] ?_
      refine sr_pu rfl (fun _ => rd_move (ev_t rfl)) ?_
      refine sr_pu rfl (fun _ => rd_len el_sl_api_Token (ev_t rfl)) ?_
      refine sr_pu rfl (fun _ => rd_eq (ev_t rfl) ev_c) ?_
      refine sr_pu rfl (fun _ => rd_assign (ev_t rfl)) ?_
      refine sr_sub [(0, _, _), (2, _, _), (3, _, _)] (sub_cons rfl (sub_cons rfl (sub_cons rfl (sub_nil _)))) ?_
      refine sr_nil (hK10 _ _ ?_)
      refine sc_ret (t_ret1 rfl rfl ?_)
      refine ⟨congrArg Value.bool ?_, g⟩
      rw [h0]; rfl
    · have he : (scanF s).2.2 = 0 := by simpa using h3
      have hord := scanF_order s (by omega) he
      generalize (scanF s).1 = l at hlen hr1 hord
      have ga := G.refl w17
      refine sc_skip (hK8 _ _ ?_)
      refine sc_sub [(0, _, _), (2, _, _), (3, _, _)] (sub_cons rfl (sub_cons rfl (sub_cons rfl (sub_nil _)))) ?_
      refine sc_seq fun K11 hK11 => ?_
      refine sc_text [3] ?_
      refine sr_pu rfl (fun _ => rd_assign ev_c) ?_
      refine sr_nil (hK11 _ _ ?_)
      refine sc_seq fun K12 hK12 => ?_
      refine sc_seq fun K13 hK13 => ?_
      refine sc_text [3] ?_
      refine sr_pu rfl (fun _ => rd_assign ev_c) ?_
      refine sr_nil (hK13 _ _ ?_)
      refine sc_block ?_
      refine sc_loop (fun (i : Nat) u => i ≤ l.length ∧ 0 ≤ endOf (l.take i) ∧ endOf (l.take i) ≤ s.length ∧ G w17 u) (fun i => [(0, True, Str s), (3, True, .slice x1 l.length c1), (6, True, .int .i64 (endOf (l.take i))), (7, True, .int .i64 i)]) (fun i => l.length - i) 0 ⟨by omega, by simp [endOf], by simp [endOf], ga⟩ (sub_cons rfl (sub_cons rfl (sub_cons rfl (sub_cons rfl (sub_nil _))))) ?_
      rintro i u ⟨hi, he1, he2, ga⟩
      have gw := g.trans ga
      have g := G.refl u
      refine sc_seq fun K14 hK14 => ?_
      refine sc_seq fun K15 hK15 => ?_
      refine sc_text [3, 3, 3, 3] ?_
      refine sr_pu rfl (fun _ => rd_move (ev_t rfl)) ?_
      refine sr_pu rfl (fun _ => rd_move (ev_t rfl)) ?_
      refine sr_pu rfl (fun _ => rd_len el_sl_api_Token (ev_t rfl)) ?_
      refine sr_pu rfl (fun _ => rd_lt (ev_t rfl) (ev_t rfl)) ?_
      refine sr_sub [(0, _, _), (3, _, _), (6, _, _), (7, _, _), (29, _, _)] (sub_cons rfl (sub_cons rfl (sub_cons rfl (sub_cons rfl (sub_cons rfl (sub_nil _)))))) ?_
      refine sr_nil (hK15 _ _ ?_)
      refine sc_cond (ev_t rfl) (fun h4 => ?_) (fun h4 => ?_)
      · replace h4 : i < l.length := by simp only [decide_eq_true_eq] at h4; omega
        obtain ⟨b1, o1, rfl, hrA⟩ := hr1 (by omega)
        have ht := (row_tok hrA h4).grow ga
        obtain ⟨q, ⟨hq1, hq2, hq3, hq4⟩, hq5⟩ := hord i h4
        have htk := take_getD h4
        generalize l.getD i tok0 = t at ht hq1 hq2 hq3 hq4 htk
        refine sc_skip (hK14 _ _ ?_)
        refine sc_sub [(0, _, _), (3, _, _), (6, _, _), (7, _, _)] (sub_cons rfl (sub_cons rfl (sub_cons rfl (sub_cons rfl (sub_nil _))))) ?_
        refine sc_seq fun K16 hK16 => ?_
        refine sc_block ?_
        refine sc_seq fun K17 hK17 => ?_
        refine sc_text [3, 3, 3, 0, 1, 2] ?_
        refine sr_pu rfl (fun _ => rd_move (ev_t rfl)) ?_
        refine sr_pu rfl (fun _ => rd_move (ev_t rfl)) ?_
        refine sr_pu rfl (fun _ => rd_idx el_sl_api_Token (ev_t rfl) (ev_t rfl) (fun _ => by omega)) ?_
        refine sr_rd rfl (rd_loads agg_api_Token (ev_t rfl) rfl (fun _ => ht.grow g)) ?_
        refine sr_alloc rfl ze_api_Token rfl ?_
        intro b8 w8 N8
        have l8 := N8.ge g
        have g := g.trans (N8.g)
        have B8 := N8.blk
        refine sr_store rfl sz_api_Token (ev_t rfl) (ev_t rfl) rfl rfl B8 rfl rfl ?_
        intro wS1 hgS1 hzS1 B8
        have g := g_only g hgS1 (by intro k hk; injection hk with hk; omega)
        refine sr_sub [(0, _, _), (3, _, _), (6, _, _), (7, _, _), (8, _, _)] (sub_cons rfl (sub_cons rfl (sub_cons rfl (sub_cons rfl (sub_cons rfl (sub_nil _)))))) ?_
        refine sr_nil (hK17 _ _ ?_)
        refine sc_seq fun K18 hK18 => ?_
        refine sc_text [3, 0, 3, 3] ?_
        refine sr_pu rfl (fun _ => rd_field fo_api_Token_1 (ev_t rfl)) ?_
        refine sr_rd rfl (rd_load one_string (ev_t rfl) (fun _ => by first | assumption | exact B8.at_ rfl | exact B8.row)) ?_
        refine sr_pu rfl (fun _ => rd_slen str_string (ev_t rfl)) ?_
        refine sr_pu rfl (fun _ => rd_assign (ev_t rfl)) ?_
        refine sr_sub [(0, _, _), (3, _, _), (6, _, _), (7, _, _), (8, _, _), (9, _, _)] (sub_cons rfl (sub_cons rfl (sub_cons rfl (sub_cons rfl (sub_cons rfl (sub_cons rfl (sub_nil _))))))) ?_
        refine sr_nil (hK18 _ _ ?_)
        refine sc_seq fun K19 hK19 => ?_
        refine sc_seq fun K20 hK20 => ?_
        refine sc_text [3, 0, 3, 3, 3, 3, 3, 3, 3, 3, 0, 3, 3, 3, 3, 3, 3] ?_
        refine sr_pu rfl (fun _ => rd_field fo_api_Token_2 (ev_t rfl)) ?_
        refine sr_rd rfl (rd_load one_int (ev_t rfl) (fun _ => by first | assumption | exact B8.at_ rfl | exact B8.row)) ?_
        refine sr_pu rfl (fun _ => rd_move (ev_t rfl)) ?_
        refine sr_pu rfl (fun _ => rd_lt (ev_t rfl) (ev_t rfl)) ?_
        refine sr_pu rfl (fun _ => rd_move (ev_t rfl)) ?_
        refine sr_pug rfl rfl rfl (fun _ => rd_move (ev_t rfl)) ?_
        refine sr_pug rfl rfl rfl (fun _ => rd_eq (ev_u rfl id) ev_c) ?_
        refine sr_pu rfl (fun _ => rd_pick_or (ev_t rfl) (ev_u rfl id)) ?_
        refine sr_pu rfl (fun _ => rd_move (ev_t rfl)) ?_
        refine sr_pug rfl rfl rfl (fun _ => rd_field fo_api_Token_2 (ev_t rfl)) ?_
        refine sr_rdg rfl rfl rfl (rd_load one_int (ev_u rfl id) (fun _ => by first | assumption | exact B8.at_ rfl | exact B8.row)) ?_
        refine sr_pug rfl rfl rfl (fun _ => rd_move (ev_t rfl)) ?_
        refine sr_pug rfl rfl rfl (fun _ => rd_slen str_string (ev_u rfl id)) ?_
        refine sr_pug rfl rfl rfl (fun _ => rd_move (ev_t rfl)) ?_
        refine sr_pug rfl rfl rfl (fun _ => rd_sub (ev_u rfl id) (ev_u rfl id) (fun _ => by show _ ≤ (s.length : Int) - (t.text.length : Nat) ∧ (s.length : Int) - (t.text.length : Nat) ≤ _; omega)) ?_
        refine sr_pug rfl rfl rfl (fun _ => rd_gt (ev_u rfl id) (ev_u rfl id)) ?_
        refine sr_pu rfl (fun _ => rd_pick_or (ev_t rfl) (ev_u rfl id)) ?_
        refine sr_sub [(0, _, _), (3, _, _), (6, _, _), (7, _, _), (8, _, _), (9, _, _), (55, _, _)] (sub_cons rfl (sub_cons rfl (sub_cons rfl (sub_cons rfl (sub_cons rfl (sub_cons rfl (sub_cons rfl (sub_nil _)))))))) ?_
        refine sr_nil (hK20 _ _ ?_)
        refine sc_cond (ev_t rfl) (fun h5 => ?_) (fun h5 => ?_)
        · exfalso
          have h5 : ((decide (t.pos < endOf (l.take i)) || decide ((t.text.length : Int) = 0)) || decide ((s.length : Int) - t.text.length < t.pos)) = true := h5
          rw [decide_eq_false (by omega), decide_eq_false (by omega), decide_eq_false (by omega)] at h5; cases h5
          done
        · skip
          refine sc_skip (hK19 _ _ ?_)
          refine sc_sub [(0, _, _), (3, _, _), (6, _, _), (7, _, _), (8, _, _), (9, _, _)] (sub_cons rfl (sub_cons rfl (sub_cons rfl (sub_cons rfl (sub_cons rfl (sub_cons rfl (sub_nil _))))))) ?_
          refine sc_seq fun K21 hK21 => ?_
          refine sc_seq fun K22 hK22 => ?_
          refine sc_draw [3, 3, 0, 3, 0, 3, 3, 3, 3, 0, 3, 3, 3, 0, 3, 3, 3, 0, 3, 3, 3, 3, 3, 0, 3, 3, 3, 3, 3] [true, true, true, true, true, true, true, true, true, true, true, true, true, true, true, true, true, true, true, true, true, true, true, true, true, true, true, true, true] [0, 0, 2, 0, 8, 0, 56, 127, 0, 256, 1023, 2047, 4095, 8191, 16383, 32767, 65535, 131071, 262143, 524287, 1048575, 2097151, 2097151, 6291455, 16777215, 33554431, 67108863, 134217727, 268435455] mix (by kernel_rfl) ?_
          have g := g.trans (G.drew _)
          have B8 := B8.grow (G.drew _)
          refine sr_pu rfl (fun _ => rd_move (ev_t rfl)) ?_
          refine sr_pu rfl (fun _ => rd_field fo_api_Token_2 (ev_t rfl)) ?_
          refine sr_rd rfl (rd_load one_int (ev_t rfl) (fun _ => by first | assumption | exact B8.at_ rfl | exact B8.row)) ?_
          refine sr_pu rfl (fun _ => rd_field fo_api_Token_2 (ev_t rfl)) ?_
          refine sr_rd rfl (rd_load one_int (ev_t rfl) (fun _ => by first | assumption | exact B8.at_ rfl | exact B8.row)) ?_
          refine sr_pu rfl (fun _ => rd_move (ev_t rfl)) ?_
          refine sr_pu rfl (fun _ => rd_add (ev_t rfl) (ev_t rfl) (fun _ => by show _ ≤ t.pos + (t.text.length : Nat) ∧ t.pos + (t.text.length : Nat) ≤ _; omega)) ?_
          refine sr_pu rfl (fun _ => rd_ssl str_string (ev_t rfl) (ev_t rfl) (ev_t rfl) (fun _ => by show 0 ≤ t.pos ∧ t.pos ≤ t.pos + (t.text.length : Nat) ∧ t.pos + (t.text.length : Nat) ≤ (s.length : Int); omega)) ?_
          refine sr_pu rfl (fun _ => rd_field fo_api_Token_1 (ev_t rfl)) ?_
          refine sr_rd rfl (rd_load one_string (ev_t rfl) (fun _ => by first | assumption | exact B8.at_ rfl | exact B8.row)) ?_
          refine sr_pu rfl (fun _ => rd_sne (ev_t rfl) (ev_t rfl)) ?_
          refine sr_pu rfl (fun _ => rd_move (ev_t rfl)) ?_
          refine sr_pug rfl rfl rfl (fun _ => rd_field fo_api_Token_1 (ev_t rfl)) ?_
          refine sr_rdg rfl rfl rfl (rd_load one_string (ev_u rfl id) (fun _ => by first | assumption | exact B8.at_ rfl | exact B8.row)) ?_
          refine sr_pug rfl rfl rfl (fun _ => rd_seq (ev_u rfl id) ev_c) ?_
          refine sr_pug rfl rfl rfl (fun _ => rd_move (ev_u rfl id)) ?_
          refine sr_pug rfl rfl rfl (fun _ => rd_field fo_api_Token_0 (ev_t rfl)) ?_
          refine sr_rdg rfl rfl rfl (rd_load one_int (ev_u rfl id) (fun _ => by first | assumption | exact B8.at_ rfl | exact B8.row)) ?_
          refine sr_pug rfl rfl rfl (fun _ => rd_eq (ev_u rfl id) ev_c) ?_
          refine sr_pug rfl rfl rfl (fun _ => rd_pick_and (ev_u rfl id) (ev_u rfl id)) ?_
          refine sr_pug rfl rfl rfl (fun _ => rd_move (ev_u rfl id)) ?_
          refine sr_pug rfl rfl rfl (fun _ => rd_move (ev_t rfl)) ?_
          refine sr_pug rfl rfl rfl (fun _ => rd_field fo_api_Token_2 (ev_t rfl)) ?_
          refine sr_rdg rfl rfl rfl (rd_load one_int (ev_u rfl id) (fun _ => by first | assumption | exact B8.at_ rfl | exact B8.row)) ?_
          refine sr_pug rfl rfl rfl (fun _ => rd_sidx str_string (ev_u rfl id) (ev_u rfl id) (fun _ => by show 0 ≤ t.pos ∧ t.pos < (s.length : Int); omega)) ?_
          refine sr_pug rfl rfl rfl (fun _ => rd_eq (ev_u rfl id) ev_c) ?_
          refine sr_pug rfl rfl rfl (fun _ => rd_pick_and (ev_u rfl id) (ev_u rfl id)) ?_
          refine sr_pug rfl rfl rfl (fun _ => rd_not (ev_u rfl id)) ?_
          refine sr_pu rfl (fun _ => rd_pick_and (ev_t rfl) (ev_u rfl id)) ?_
          refine sr_sub [(0, _, _), (3, _, _), (6, _, _), (7, _, _), (8, _, _), (9, _, _), (84, _, _)] (sub_cons rfl (sub_cons rfl (sub_cons rfl (sub_cons rfl (sub_cons rfl (sub_cons rfl (sub_cons rfl (sub_nil _)))))))) ?_
          refine sr_nil (hK22 _ _ ?_)
          refine sc_cond (ev_t rfl) (fun h6 => ?_) (fun h6 => ?_)
          · exfalso
            have h6 : (!decide ((s.drop t.pos.toNat).take ((t.pos + (t.text.length : Nat)).toNat - t.pos.toNat) = t.text) && !((decide (t.text = [59]) && decide (t.kind = 4)) && decide (cAt s t.pos.toNat = 10))) = true := h6
            rw [show (t.pos + (t.text.length : Nat)).toNat - t.pos.toNat = t.text.length by omega, show t.pos.toNat = q by omega] at h6
            rcases hq4 with e | ⟨e1, e2, e3⟩
            · rw [decide_eq_true e] at h6; cases h6
            · rw [decide_eq_true e1, decide_eq_true e2, decide_eq_true e3] at h6; simp at h6
            done
          · skip
            refine sc_skip (hK21 _ _ ?_)
            refine sc_sub [(0, _, _), (3, _, _), (6, _, _), (7, _, _), (8, _, _), (9, _, _)] (sub_cons rfl (sub_cons rfl (sub_cons rfl (sub_cons rfl (sub_cons rfl (sub_cons rfl (sub_nil _))))))) ?_
            refine sc_text [3, 0, 3, 3, 3] ?_
            refine sr_pu rfl (fun _ => rd_field fo_api_Token_2 (ev_t rfl)) ?_
            refine sr_rd rfl (rd_load one_int (ev_t rfl) (fun _ => by first | assumption | exact B8.at_ rfl | exact B8.row)) ?_
            refine sr_pu rfl (fun _ => rd_move (ev_t rfl)) ?_
            refine sr_pu rfl (fun _ => rd_add (ev_t rfl) (ev_t rfl) (fun _ => by show _ ≤ t.pos + (t.text.length : Nat) ∧ t.pos + (t.text.length : Nat) ≤ _; omega)) ?_
            refine sr_pu rfl (fun _ => rd_assign (ev_t rfl)) ?_
            refine sr_sub [(0, _, _), (3, _, _), (6, _, _), (7, _, _)] (sub_cons rfl (sub_cons rfl (sub_cons rfl (sub_cons rfl (sub_nil _))))) ?_
            refine sr_nil (hK16 _ _ ?_)
            refine sc_text [3, 3, 3] ?_
            refine sr_pu rfl (fun _ => rd_move (ev_t rfl)) ?_
            refine sr_pu rfl (fun _ => rd_add (ev_t rfl) ev_c (fun _ => by omega)) ?_
            refine sr_pu rfl (fun _ => rd_assign (ev_t rfl)) ?_
            refine sr_sub [(0, _, _), (3, _, _), (6, _, _), (7, _, _)] (sub_cons rfl (sub_cons rfl (sub_cons rfl (sub_cons rfl (sub_nil _))))) ?_
            refine sr_nil (fun a ha => ?_)
            refine ⟨i + 1, ?_, ⟨h4, ?_, ?_, ga.trans g⟩, by omega⟩
            · rw [htk, endOf_snoc]; exact ha
            · rw [htk, endOf_snoc]; omega
            · rw [htk, endOf_snoc]; omega
      · (try simp only [bsimp] at h4)
        refine sc_exit rfl (hK12 _ _ ?_)
        refine sc_sub [] (sub_nil _) ?_
        refine sc_seq fun K23 hK23 => ?_
        refine sc_text [3] ?_
        refine sr_pu rfl (fun _ => rd_assign ev_c) ?_
        refine sr_nil (hK23 _ _ ?_)
        refine sc_ret (t_ret1 rfl rfl ?_)
        exact ⟨rfl, gw⟩
end Go.Rk
