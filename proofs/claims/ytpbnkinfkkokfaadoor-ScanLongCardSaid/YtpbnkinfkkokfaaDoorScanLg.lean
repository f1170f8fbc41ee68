/- The law about long texts. Conditions: what start-up laid. -/
import Derived.Test.YtpbnkinfkkokfaaDoorScanCat
import Derived.Test.YtpbnkinfkkokfaaDoorByt
namespace Go.Rk
open Go Go.RowKit
/-- Blanks and a letter. -/
def blanksL (n : Nat) (c : UInt8) : List UInt8 := List.replicate n 32 ++ [c]
theorem blanks_len (n : Nat) (c : UInt8) : (blanksL n c).length = n + 1 := by simp [blanksL]
theorem blanks_at {n p : Nat} {c : UInt8} (h : p < n) : cAt (blanksL n c) p = 32 := by
  rw [cAt_eq (by rw [blanks_len]; omega)]
  simp [blanksL, List.getElem_append_left, h]
theorem blanks_last (n : Nat) (c : UInt8) : cAt (blanksL n c) n = c.toNat := by
  rw [cAt_eq (by rw [blanks_len]; omega)]
  simp [blanksL]
theorem blanks_drop (n : Nat) (c : UInt8) : (blanksL n c).drop n = [c] := by simp [blanksL]
def lowC (c : UInt8) : Prop := 97 ≤ c.toNat ∧ c.toNat ≤ 122
theorem low_letter {c : UInt8} (h : lowC c) : letterB (c.toNat : Int) = true := by
  unfold lowC at h
  simp only [letterB, Bool.or_eq_true, Bool.and_eq_true, decide_eq_true_eq]
  omega
theorem kws_len : kws.all (fun k => decide (2 ≤ k.length)) = true := by decide
theorem one_no_kw (c : UInt8) : inB kws [c] = false := by
  rw [inB, List.any_eq_false]
  intro k hk
  have := of_decide_eq_true (List.all_eq_true.mp kws_len k hk)
  simp only [decide_eq_true_eq]
  intro e; rw [← e] at this; simp at this
theorem blanks_go {n : Nat} {c : UInt8} (hc : lowC c) : ∀ (k p f : Nat), p + k = n → n + 1 - p ≤ f → goF (blanksL n c) f p [] [] = (n + 1, [⟨1, [c], n⟩], [], 0)
  | 0, p, f, hp, hf => by
    obtain rfl : p = n := by omega
    obtain ⟨f', rfl⟩ : ∃ f', f = f' + 1 := ⟨f - 1, by omega⟩
    have hl := blanks_last p c
    have hd := blanks_drop p c
    have hrun : runN isAlnum [c] = 1 := by
      rw [runN, if_pos (by rw [isAlnum, low_letter hc]; rfl)]; rfl
    have hst : nextF (blanksL p c) p [] [] = (p + 1, [⟨1, [c], p⟩], [], 0) := by
      have h1 : decide (cAt (blanksL p c) p = 10) = false := by rw [hl]; unfold lowC at hc; rw [decide_eq_false_iff_not]; omega
      have h2 : ((decide (cAt (blanksL p c) p = 32) || decide (cAt (blanksL p c) p = 9)) || decide (cAt (blanksL p c) p = 13)) = false := by
        rw [hl]; unfold lowC at hc
        rw [decide_eq_false (by omega), decide_eq_false (by omega), decide_eq_false (by omega)]; rfl
      have h3 : preB [47, 47] ((blanksL p c).drop p) = false := by rw [hd]; rfl
      unfold nextF
      rw [h1, h2, h3, hd, hl, low_letter hc, hrun]
      simp only [cond_true, cond_false]
      rw [show List.take 1 [c] = [c] from rfl, wordK, one_no_kw]
      rfl
    rw [goF_step (by rw [blanks_len]; omega), hst]
    exact goF_end (by rw [blanks_len]; omega) _ _ _
  | k + 1, p, f, hp, hf => by
    obtain ⟨f', rfl⟩ : ∃ f', f = f' + 1 := ⟨f - 1, by omega⟩
    have ha := blanks_at (n := n) (p := p) (c := c) (by omega)
    have hst : nextF (blanksL n c) p [] [] = (p + 1, [], [], 0) := by
      unfold nextF; rw [ha]; rfl
    rw [goF_step (by rw [blanks_len]; omega), hst]
    exact blanks_go hc k (p + 1) f' (by omega) (by omega)
theorem blanks_scan {n : Nat} {c : UInt8} (hc : lowC c) (h : n + 1 ≤ 20000) : scanF (blanksL n c) = ([⟨1, [c], n⟩], 0, 0) := by
  have := blanks_go (n := n) hc n 0 (blanksL n c).length (by omega) (by rw [blanks_len]; omega)
  rw [scanF, allF, decide_eq_false (show ¬ (20000 : Int) < ((blanksL n c).length : Nat) by rw [blanks_len]; omega), cond_false, this]
  rfl
theorem long_scan {s : List UInt8} (h : 20000 < s.length) : scanF s = ([], 0, 3) ∧ (allF s).2.2.1 = [] := by
  have e : allF s = (0, [], [], 3) := by rw [allF, decide_eq_true (by omega : (20000 : Int) < s.length)]; rfl
  rw [scanF, e]; exact ⟨rfl, rfl⟩
theorem runN_full {q : Int → Bool} : ∀ {l : List UInt8}, (∀ c ∈ l, q c.toNat = true) → runN q l = l.length
  | [], _ => rfl
  | c :: l, h => by
    rw [runN, if_pos (h c (List.mem_cons_self ..)), runN_full (fun x hx => h x (List.mem_cons_of_mem _ hx))]; rfl
theorem slashes_com {s : List UInt8} (hs : ∀ c ∈ s, c.toNat ≠ 10) (h : s.length + 2 ≤ 20000) : (allF ([47, 47] ++ s)).2.2.1.length = 1 := by
  have hl : ([47, 47] ++ s).length = s.length + 2 := by simp
  have hrun : runN isNotLf (([47, 47] ++ s).drop 0) = s.length + 2 := by
    rw [List.drop_zero, runN_full, hl]
    intro c hc
    rw [isNotLf]
    have : c.toNat ≠ 10 := by
      rcases List.mem_append.mp hc with h1 | h1
      · have : c = 47 := by simpa using h1
        subst this; decide
      · exact hs c h1
    rw [decide_eq_false (by omega)]; rfl
  have hst : nextF ([47, 47] ++ s) 0 [] [] = (0 + (s.length + 2), [], [⟨5, (([47, 47] ++ s).drop 0).take (s.length + 2), ((0 : Nat) : Int)⟩], 0) := by
    unfold nextF
    rw [hrun]
    rfl
  rw [allF, decide_eq_false (show ¬ (20000 : Int) < ((([47, 47] ++ s : List UInt8)).length : Nat) by rw [hl]; omega), cond_false, hl, goF_step (by rw [hl]; omega), hst]
  simp only [decide_true, cond_true]
  rw [goF_end (by rw [hl]; omega)]
  rfl
theorem fill_step {m i : Nat} (h : i < m) : (List.replicate i (32 : UInt8) ++ List.replicate (m - i) 0).set i 32 = List.replicate (i + 1) 32 ++ List.replicate (m - (i + 1)) 0 := by
  obtain ⟨k, hk⟩ : ∃ k, m - i = k + 1 := ⟨m - i - 1, by omega⟩
  rw [hk, show m - (i + 1) = k by omega, List.set_append, if_neg (by simp), List.length_replicate, Nat.sub_self, List.replicate_succ, List.set_cons_zero, List.replicate_succ']
  simp
theorem long_law (n : Int) (hn : (Lit.int .u16 n).wf = true) (ch : Int) (hch : (Lit.int .u8 ch).wf = true) (w : World) (hL : Laid w) (hb3 : 3 ≤ w.heap.size) : Ret PP fn_l02_ScanLong #[.int .u16 n, .int .u8 ch] w fun v w' => v = .bool true ∧ G w w' := by
  have hn2 : 0 ≤ n ∧ n ≤ 65535 := by simp [Lit.wf, IntKind.has] at hn; simpa [IntKind.min, IntKind.max, IntKind.bits, IntKind.signed] using hn
  have hc2 : 0 ≤ ch ∧ ch ≤ 255 := by simp [Lit.wf, IntKind.has] at hch; simpa [IntKind.min, IntKind.max, IntKind.bits, IntKind.signed] using hch
  obtain ⟨m, rfl⟩ : ∃ m : Nat, n = m := ⟨n.toNat, by omega⟩
  obtain ⟨cc, hcc, hlow⟩ : ∃ cc : UInt8, (cc.toNat : Int) = 97 + ch.tmod 26 ∧ lowC cc := by
    have h1 : 0 ≤ ch.tmod 26 ∧ ch.tmod 26 ≤ 25 := by rw [Int.tmod_eq_emod_of_nonneg hc2.1]; omega
    refine ⟨UInt8.ofNat (97 + ch.tmod 26).toNat, ?_, ?_⟩
    · rw [UInt8.toNat_ofNat']; omega
    · unfold lowC; rw [UInt8.toNat_ofNat']; omega
  have g := G.refl w
  refine ret_of_sc (m := 88) func_l02_ScanLong rfl rfl [(0, True, _), (1, True, _)] (sub_cons rfl (sub_cons rfl (sub_nil _))) ?_
  refine sc_seq fun K1 hK1 => ?_
  refine sc_text [3] ?_
  refine sr_pu rfl (fun _ => rd_assign ev_c) ?_
  refine sr_nil (hK1 _ _ ?_)
  refine sc_seq fun K2 hK2 => ?_
  refine sc_seq fun K3 hK3 => ?_
  refine sc_text [1, 3] ?_
  refine sr_pure rfl (rc_call go_l02_awake ev_f (args_nil) rfl) (awake_ok _ (hL.grow g) (by have := g.size; omega)) (fun w12 g12 => ?_)
  have g := g.trans (g12)
  refine sr_pu rfl (fun _ => rd_not (ev_t rfl)) ?_
  refine sr_sub [(0, _, _), (1, _, _), (4, _, _), (13, _, _)] (sub_cons rfl (sub_cons rfl (sub_cons rfl (sub_cons rfl (sub_nil _))))) ?_
  refine sr_nil (hK3 _ _ ?_)
  refine sc_false (ev_t rfl) ?_
  refine sc_skip (hK2 _ _ ?_)
  refine sc_sub [(0, _, _), (1, _, _), (4, _, _)] (sub_cons rfl (sub_cons rfl (sub_cons rfl (sub_nil _)))) ?_
  refine sc_seq fun K4 hK4 => ?_
  refine sc_text [3, 3, 1, 3] ?_
  refine sr_pu rfl (fun _ => rd_move (ev_t rfl)) ?_
  refine sr_pu rfl (fun _ => rd_convr (r := ((m : Nat) : Int)) ik_uint16 ik_int (ev_t rfl) (fun hc => i64_id ⟨by omega, by omega⟩)) ?_
  refine sr_makeb rfl el_sl_uint8 ze_uint8 (ev_t rfl) (ev_t rfl) (by omega) ?_
  intro b16 w16 hb16 hY g16
  have z16 : w.heap.size ≤ b16 := by have := g.size; omega
  have g := g.trans g16
  refine sr_pu rfl (fun _ => rd_assign (ev_t rfl)) ?_
  refine sr_sub [(1, _, _), (4, _, _), (5, _, _)] (sub_cons rfl (sub_cons rfl (sub_cons rfl (sub_nil _)))) ?_
  refine sr_nil (hK4 _ _ ?_)
  refine sc_seq fun K5 hK5 => ?_
  refine sc_seq fun K6 hK6 => ?_
  refine sc_text [3] ?_
  refine sr_pu rfl (fun _ => rd_assign ev_c) ?_
  refine sr_nil (hK6 _ _ ?_)
  refine sc_block ?_
  refine sc_loop (fun (i : Nat) u => i ≤ m ∧ Byt u b16 ty_uint8 (List.replicate i 32 ++ List.replicate (m - i) 0) ∧ G w u) (fun i => [(1, True, .int .u8 ch), (5, True, .slice (some ⟨b16, 0, none⟩) m m), (6, True, .int .i64 i)]) (fun i => m - i) 0 ⟨by omega, by simpa using hY, g⟩ (sub_cons rfl (sub_cons rfl (sub_cons rfl (sub_nil _)))) ?_
  rintro i u ⟨hi, hY, g⟩
  refine sc_seq fun K7 hK7 => ?_
  refine sc_seq fun K8 hK8 => ?_
  refine sc_text [3, 3, 3, 3] ?_
  refine sr_pu rfl (fun _ => rd_move (ev_t rfl)) ?_
  refine sr_pu rfl (fun _ => rd_move (ev_t rfl)) ?_
  refine sr_pu rfl (fun _ => rd_len el_sl_uint8 (ev_t rfl)) ?_
  refine sr_pu rfl (fun _ => rd_lt (ev_t rfl) (ev_t rfl)) ?_
  refine sr_sub [(1, _, _), (5, _, _), (6, _, _), (20, _, _)] (sub_cons rfl (sub_cons rfl (sub_cons rfl (sub_cons rfl (sub_nil _))))) ?_
  refine sr_nil (hK8 _ _ ?_)
  refine sc_cond (ev_t rfl) (fun h2 => ?_) (fun h2 => ?_)
  · replace h2 : i < m := by simp only [decide_eq_true_eq] at h2; omega
    refine sc_skip (hK7 _ _ ?_)
    refine sc_sub [(1, _, _), (5, _, _), (6, _, _)] (sub_cons rfl (sub_cons rfl (sub_cons rfl (sub_nil _)))) ?_
    refine sc_seq fun K9 hK9 => ?_
    refine sc_block ?_
    refine sc_text [3, 3, 3, 2] ?_
    refine sr_pu rfl (fun _ => rd_move (ev_t rfl)) ?_
    refine sr_pu rfl (fun _ => rd_move (ev_t rfl)) ?_
    refine sr_pu rfl (fun _ => rd_idx el_sl_uint8 (ev_t rfl) (ev_t rfl) (fun _ => by omega)) ?_
    refine sr_storeb (c := 32) rfl sz_uint8 (ev_t rfl) ev_c hY (by simp; omega) ?_
    intro w25 hg25 hz25 hY
    have g := g_only g hg25 (fun k hk => by injection hk with hk; omega)
    rw [show 0 + (i : Int).toNat * 1 = i by omega, fill_step h2] at hY
    refine sr_sub [(1, _, _), (5, _, _), (6, _, _)] (sub_cons rfl (sub_cons rfl (sub_cons rfl (sub_nil _)))) ?_
    refine sr_nil (hK9 _ _ ?_)
    refine sc_text [3, 3, 3] ?_
    refine sr_pu rfl (fun _ => rd_move (ev_t rfl)) ?_
    refine sr_pu rfl (fun _ => rd_add (ev_t rfl) ev_c (fun _ => by omega)) ?_
    refine sr_pu rfl (fun _ => rd_assign (ev_t rfl)) ?_
    refine sr_sub [(1, _, _), (5, _, _), (6, _, _)] (sub_cons rfl (sub_cons rfl (sub_cons rfl (sub_nil _)))) ?_
    refine sr_nil (fun a ha => ?_)
    exact ⟨i + 1, ha, ⟨h2, hY, g⟩, by omega⟩
  · have hi : i = m := by simp only [decide_eq_false_iff_not] at h2; omega
    subst hi
    rw [Nat.sub_self, List.replicate_zero, List.append_nil] at hY
    refine sc_exit rfl (hK5 _ _ ?_)
    refine sc_sub [(1, _, _), (5, _, _)] (sub_cons rfl (sub_cons rfl (sub_nil _))) ?_
    refine sc_seq fun K10 hK10 => ?_
    refine sc_text [3, 0, 3, 3, 3, 1, 0, 3, 3] ?_
    refine sr_pu rfl (fun _ => rd_move (ev_t rfl)) ?_
    refine sr_rd rfl (rd_tostr el_sl_uint8 ik_uint8 str_string (ev_t rfl) (by simp) (fun _ => hY.row)) ?_
    refine sr_pu rfl (fun _ => rd_move (ev_t rfl)) ?_
    refine sr_pu rfl (fun _ => rd_remw (ev_t rfl) ev_c (fun _ => by decide)) ?_
    refine sr_pu rfl (fun _ => rd_addr (r := ((cc.toNat : Nat) : Int)) ev_c (ev_t rfl) (fun hc => (by rw [hcc]; exact u8_id ⟨by have := cc.toNat_lt; omega, by have := cc.toNat_lt; omega⟩))) ?_
    refine sr_buildSlice [_] rfl el_sl_uint8 ze_uint8 (parts_cons (ev_t rfl) (parts_nil)) rfl rfl ?_
    intro b31 w31 N31
    have l31 := N31.ge g
    have g := g.trans (N31.g)
    have B31 := N31.blk
    refine sr_rd rfl (rd_tostr (l := [cc]) el_sl_uint8 ik_uint8 str_string (ev_t rfl) rfl (fun _ => B31.row)) ?_
    refine sr_pu rfl (fun _ => rd_scat (ev_t rfl) (ev_t rfl) (fun _ => by simp; omega)) ?_
    refine sr_pu rfl (fun _ => rd_assign (ev_t rfl)) ?_
    refine sr_nil (hK10 _ _ ?_)
    refine sc_sub [(1, _, _), (5, _, _), (7, _, _), (26, _, _), (27, _, _), (28, _, _), (29, _, _), (30, _, _), (31, _, _), (32, _, _), (33, _, _)] (sub_cons rfl (sub_cons rfl (sub_cons rfl (sub_cons rfl (sub_cons rfl (sub_cons rfl (sub_cons rfl (sub_cons rfl (sub_cons rfl (sub_cons rfl (sub_cons rfl (sub_nil _)))))))))))) ?_
    refine sc_seq fun K11 hK11 => ?_
    refine sc_text [3, 1, 3, 3, 3, 3, 3, 3, 3] ?_
    refine sr_pu rfl (fun _ => rd_move (ev_t rfl)) ?_
    refine sr_call rfl (rc_call go_scan_Scan ev_f (args_cons (ev_t rfl) (args_nil)) rfl) (scan_ok (blanksL i cc) _ (hL.grow g) (by have := g.size; omega)) ?_
    rintro v36 w36 ⟨l1, rfl, hT1, g36⟩
    refine ⟨fun _ => g36, ?_⟩
    have g := g.trans g36
    obtain ⟨x1, c1, rfl, hr1⟩ := hT1.row
    refine sr_pu rfl (fun _ => rd_move (ev_t rfl)) ?_
    refine sr_pu rfl (fun _ => rd_extract (ev_t rfl) rfl) ?_
    refine sr_pu rfl (fun _ => rd_extract (ev_t rfl) rfl) ?_
    refine sr_pu rfl (fun _ => rd_extract (ev_t rfl) rfl) ?_
    refine sr_pu rfl (fun _ => rd_assign (ev_t rfl)) ?_
    refine sr_pu rfl (fun _ => rd_assign (ev_t rfl)) ?_
    refine sr_pu rfl (fun _ => rd_assign (ev_t rfl)) ?_
    refine sr_nil (hK11 _ _ ?_)
    refine sc_sub [(1, _, _), (5, _, _), (7, _, _), (8, _, _), (9, _, _), (10, _, _), (26, _, _), (27, _, _), (28, _, _), (29, _, _), (30, _, _), (31, _, _), (32, _, _), (33, _, _), (34, _, _), (35, _, _), (36, _, _), (37, _, _), (38, _, _), (39, _, _)] (sub_cons rfl (sub_cons rfl (sub_cons rfl (sub_cons rfl (sub_cons rfl (sub_cons rfl (sub_cons rfl (sub_cons rfl (sub_cons rfl (sub_cons rfl (sub_cons rfl (sub_cons rfl (sub_cons rfl (sub_cons rfl (sub_cons rfl (sub_cons rfl (sub_cons rfl (sub_cons rfl (sub_cons rfl (sub_cons rfl (sub_nil _))))))))))))))))))))) ?_
    refine sc_seq fun K12 hK12 => ?_
    refine sc_text [3, 3, 1, 3] ?_
    refine sr_pu rfl (fun _ => rd_move (ev_t rfl)) ?_
    refine sr_pu rfl (fun _ => rd_scat ev_c (ev_t rfl) (fun _ => by show 2 + (blanksL i cc).length ≤ 9223372036854775807; rw [blanks_len]; omega)) ?_
    refine sr_call rfl (rc_call go_scan_Comments ev_f (args_cons (ev_t rfl) (args_nil)) rfl) (comments_ok ([47, 47] ++ blanksL i cc) _ (hL.grow g) (by have := g.size; omega)) ?_
    rintro v42 w42 ⟨hT2, g42⟩
    refine ⟨fun _ => g42, ?_⟩
    have g := g.trans g42
    have gr := g42
    obtain ⟨x2, c2, rfl, hr2⟩ := hT2.row
    refine sr_pu rfl (fun _ => rd_assign (ev_t rfl)) ?_
    refine sr_nil (hK12 _ _ ?_)
    refine sc_sub [(1, _, _), (5, _, _), (7, _, _), (8, _, _), (9, _, _), (10, _, _), (11, _, _), (26, _, _), (27, _, _), (28, _, _), (29, _, _), (30, _, _), (31, _, _), (32, _, _), (33, _, _), (34, _, _), (35, _, _), (36, _, _), (37, _, _), (38, _, _), (39, _, _), (40, _, _), (41, _, _), (42, _, _)] (sub_cons rfl (sub_cons rfl (sub_cons rfl (sub_cons rfl (sub_cons rfl (sub_cons rfl (sub_cons rfl (sub_cons rfl (sub_cons rfl (sub_cons rfl (sub_cons rfl (sub_cons rfl (sub_cons rfl (sub_cons rfl (sub_cons rfl (sub_cons rfl (sub_cons rfl (sub_cons rfl (sub_cons rfl (sub_cons rfl (sub_cons rfl (sub_cons rfl (sub_cons rfl (sub_cons rfl (sub_nil _))))))))))))))))))))))))) ?_
    refine sc_seq fun K13 hK13 => ?_
    refine sc_seq fun K14 hK14 => ?_
    refine sc_text [3, 3, 3] ?_
    refine sr_pu rfl (fun _ => rd_move (ev_t rfl)) ?_
    refine sr_pu rfl (fun _ => rd_slen str_string (ev_t rfl)) ?_
    refine sr_pu rfl (fun _ => rd_gt (ev_t rfl) ev_c) ?_
    refine sr_nil (hK14 _ _ ?_)
    refine sc_cond (ev_t rfl) (fun h3 => ?_) (fun h3 => ?_)
    · replace h3 : decide ((20000 : Int) < ((blanksL i cc).length : Nat)) = true := h3
      have e3 : 20000 < (blanksL i cc).length := by simp only [decide_eq_true_eq] at h3; omega
      have e4 := (long_scan e3).1
      have e5 := (long_scan (s := [47, 47] ++ blanksL i cc) (by rw [List.length_append]; omega)).2
      refine sc_seq fun K15 hK15 => ?_
      refine sc_text [3, 3, 3, 3, 3, 3, 3, 3, 3, 3, 3, 3, 3, 3, 3, 3, 3] ?_
      refine sr_pu rfl (fun _ => rd_move (ev_t rfl)) ?_
      refine sr_pu rfl (fun _ => rd_len el_sl_api_Token (ev_t rfl)) ?_
      refine sr_pu rfl (fun _ => rd_eq (ev_t rfl) ev_c) ?_
      refine sr_pu rfl (fun _ => rd_move (ev_t rfl)) ?_
      refine sr_pug rfl rfl rfl (fun _ => rd_move (ev_t rfl)) ?_
      refine sr_pug rfl rfl rfl (fun _ => rd_eq (ev_u rfl id) ev_c) ?_
      refine sr_pu rfl (fun _ => rd_pick_and (ev_t rfl) (ev_u rfl id)) ?_
      refine sr_pu rfl (fun _ => rd_move (ev_t rfl)) ?_
      refine sr_pug rfl rfl rfl (fun _ => rd_move (ev_t rfl)) ?_
      refine sr_pug rfl rfl rfl (fun _ => rd_eq (ev_u rfl id) ev_c) ?_
      refine sr_pu rfl (fun _ => rd_pick_and (ev_t rfl) (ev_u rfl id)) ?_
      refine sr_pu rfl (fun _ => rd_move (ev_t rfl)) ?_
      refine sr_pug rfl rfl rfl (fun _ => rd_move (ev_t rfl)) ?_
      refine sr_pug rfl rfl rfl (fun _ => rd_len el_sl_api_Token (ev_u rfl id)) ?_
      refine sr_pug rfl rfl rfl (fun _ => rd_eq (ev_u rfl id) ev_c) ?_
      refine sr_pu rfl (fun _ => rd_pick_and (ev_t rfl) (ev_u rfl id)) ?_
      refine sr_pu rfl (fun _ => rd_assign (ev_t rfl)) ?_
      refine sr_nil (hK15 _ _ ?_)
      refine sc_sub [(1, _, _), (4, _, _), (5, _, _), (7, _, _), (8, _, _), (9, _, _), (10, _, _), (11, _, _), (26, _, _), (27, _, _), (28, _, _), (29, _, _), (30, _, _), (31, _, _), (32, _, _), (33, _, _), (34, _, _), (35, _, _), (36, _, _), (37, _, _), (38, _, _), (39, _, _), (40, _, _), (41, _, _), (42, _, _), (43, _, _), (44, _, _), (45, _, _), (46, _, _), (47, _, _), (48, _, _), (49, _, _), (50, _, _), (51, _, _), (52, _, _), (53, _, _), (54, _, _), (55, _, _), (56, _, _), (57, _, _), (58, _, _), (59, _, _), (60, _, _), (61, _, _)] (sub_cons rfl (sub_cons rfl (sub_cons rfl (sub_cons rfl (sub_cons rfl (sub_cons rfl (sub_cons rfl (sub_cons rfl (sub_cons rfl (sub_cons rfl (sub_cons rfl (sub_cons rfl (sub_cons rfl (sub_cons rfl (sub_cons rfl (sub_cons rfl (sub_cons rfl (sub_cons rfl (sub_cons rfl (sub_cons rfl (sub_cons rfl (sub_cons rfl (sub_cons rfl (sub_cons rfl (sub_cons rfl (sub_cons rfl (sub_cons rfl (sub_cons rfl (sub_cons rfl (sub_cons rfl (sub_cons rfl (sub_cons rfl (sub_cons rfl (sub_cons rfl (sub_cons rfl (sub_cons rfl (sub_cons rfl (sub_cons rfl (sub_cons rfl (sub_cons rfl (sub_cons rfl (sub_cons rfl (sub_cons rfl (sub_cons rfl (sub_nil _))))))))))))))))))))))))))))))))))))))))))))) ?_
      refine sc_ret (t_ret1 rfl rfl ?_)
      refine ⟨congrArg Value.bool ?_, g⟩
      rw [e4, e5]; rfl
    · replace h3 : decide ((20000 : Int) < ((blanksL i cc).length : Nat)) = false := h3
      have e3 : i + 1 ≤ 20000 := by simp only [decide_eq_false_iff_not, blanks_len] at h3; omega
      have e4 := blanks_scan hlow e3
      rw [e4] at hr1
      obtain ⟨b1, o1, rfl, hrA⟩ := hr1 (Nat.zero_lt_one)
      have hrA := hrA.grow gr
      refine sc_skip (hK13 _ _ ?_)
      refine sc_seq fun K16 hK16 => ?_
      refine sc_text [3, 3, 3, 3, 3, 3, 3, 0, 3, 3, 3, 3, 3, 3, 3, 3, 3, 3, 3, 3, 3, 3, 3, 3, 3, 3, 3] ?_
      refine sr_pu rfl (fun _ => rd_move (ev_t rfl)) ?_
      refine sr_pu rfl (fun _ => rd_len el_sl_api_Token (ev_t rfl)) ?_
      refine sr_pu rfl (fun _ => rd_eq (ev_t rfl) ev_c) ?_
      refine sr_pu rfl (fun _ => rd_move (ev_t rfl)) ?_
      refine sr_pug rfl rfl rfl (fun _ => rd_move (ev_t rfl)) ?_
      refine sr_pug rfl rfl rfl (fun _ => rd_idx el_sl_api_Token (ev_u rfl id) ev_c (fun _ => by rw [e4]; show 0 ≤ (0 : Int) ∧ (0 : Int) < 1; omega)) ?_
      refine sr_pug rfl rfl rfl (fun _ => rd_field fo_api_Token_2 (ev_u rfl id)) ?_
      refine sr_rdg rfl rfl rfl (rd_load one_int (ev_u rfl id) (fun _ => hrA.get 2 rfl rfl)) ?_
      refine sr_pug rfl rfl rfl (fun _ => rd_move (ev_t rfl)) ?_
      refine sr_pug rfl rfl rfl (fun _ => rd_len el_sl_uint8 (ev_u rfl id)) ?_
      refine sr_pug rfl rfl rfl (fun _ => rd_eq (ev_u rfl id) (ev_u rfl id)) ?_
      refine sr_pu rfl (fun _ => rd_pick_and (ev_t rfl) (ev_u rfl id)) ?_
      refine sr_pu rfl (fun _ => rd_move (ev_t rfl)) ?_
      refine sr_pug rfl rfl rfl (fun _ => rd_move (ev_t rfl)) ?_
      refine sr_pug rfl rfl rfl (fun _ => rd_eq (ev_u rfl id) ev_c) ?_
      refine sr_pu rfl (fun _ => rd_pick_and (ev_t rfl) (ev_u rfl id)) ?_
      refine sr_pu rfl (fun _ => rd_move (ev_t rfl)) ?_
      refine sr_pug rfl rfl rfl (fun _ => rd_move (ev_t rfl)) ?_
      refine sr_pug rfl rfl rfl (fun _ => rd_slen str_string (ev_u rfl id)) ?_
      refine sr_pug rfl rfl rfl (fun _ => rd_add (ev_u rfl id) ev_c (fun _ => by show _ ≤ ((blanksL i cc).length : Nat) + (2 : Int) ∧ ((blanksL i cc).length : Nat) + (2 : Int) ≤ _; rw [blanks_len]; omega)) ?_
      refine sr_pug rfl rfl rfl (fun _ => rd_gt (ev_u rfl id) ev_c) ?_
      refine sr_pug rfl rfl rfl (fun _ => rd_move (ev_t rfl)) ?_
      refine sr_pug rfl rfl rfl (fun _ => rd_len el_sl_api_Token (ev_u rfl id)) ?_
      refine sr_pug rfl rfl rfl (fun _ => rd_eq (ev_u rfl id) ev_c) ?_
      refine sr_pug rfl rfl rfl (fun _ => rd_beq und_bool (ev_u rfl id) (ev_u rfl id)) ?_
      refine sr_pu rfl (fun _ => rd_pick_and (ev_t rfl) (ev_u rfl id)) ?_
      refine sr_pu rfl (fun _ => rd_assign (ev_t rfl)) ?_
      refine sr_nil (hK16 _ _ ?_)
      refine sc_sub [(1, _, _), (4, _, _), (5, _, _), (7, _, _), (8, _, _), (9, _, _), (10, _, _), (11, _, _), (26, _, _), (27, _, _), (28, _, _), (29, _, _), (30, _, _), (31, _, _), (32, _, _), (33, _, _), (34, _, _), (35, _, _), (36, _, _), (37, _, _), (38, _, _), (39, _, _), (40, _, _), (41, _, _), (42, _, _), (43, _, _), (44, _, _), (45, _, _), (62, _, _), (63, _, _), (64, _, _), (65, _, _), (66, _, _), (67, _, _), (68, _, _), (69, _, _), (70, _, _), (71, _, _), (72, _, _), (73, _, _), (74, _, _), (75, _, _), (76, _, _), (77, _, _), (78, _, _), (79, _, _), (80, _, _), (81, _, _), (82, _, _), (83, _, _), (84, _, _), (85, _, _), (86, _, _), (87, _, _)] (sub_cons rfl (sub_cons rfl (sub_cons rfl (sub_cons rfl (sub_cons rfl (sub_cons rfl (sub_cons rfl (sub_cons rfl (sub_cons rfl (sub_cons rfl (sub_cons rfl (sub_cons rfl (sub_cons rfl (sub_cons rfl (sub_cons rfl (sub_cons rfl (sub_cons rfl (sub_cons rfl (sub_cons rfl (sub_cons rfl (sub_cons rfl (sub_cons rfl (sub_cons rfl (sub_cons rfl (sub_cons rfl (sub_cons rfl (sub_cons rfl (sub_cons rfl (sub_cons rfl (sub_cons rfl (sub_cons rfl (sub_cons rfl (sub_cons rfl (sub_cons rfl (sub_cons rfl (sub_cons rfl (sub_cons rfl (sub_cons rfl (sub_cons rfl (sub_cons rfl (sub_cons rfl (sub_cons rfl (sub_cons rfl (sub_cons rfl (sub_cons rfl (sub_cons rfl (sub_cons rfl (sub_cons rfl (sub_cons rfl (sub_cons rfl (sub_cons rfl (sub_cons rfl (sub_cons rfl (sub_cons rfl (sub_nil _))))))))))))))))))))))))))))))))))))))))))))))))))))))) ?_
      refine sc_ret (t_ret1 rfl rfl ?_)
      refine ⟨congrArg Value.bool ?_, g⟩
      have e6 : (decide ((20000 : Int) < ((blanksL i cc).length : Nat) + (2 : Int)) == decide ((((allF ([47, 47] ++ blanksL i cc)).2.2.1.length : Nat) : Int) = 0)) = true := by
        rw [blanks_len]
        by_cases h7 : i + 3 ≤ 20000
        · rw [slashes_com (s := blanksL i cc) (fun c hc => by
            rcases List.mem_append.mp hc with h8 | h8
            · rw [(List.mem_replicate.mp h8).2]; decide
            · have : c = cc := by simpa using h8
              subst this; unfold lowC at hlow; omega) (by rw [blanks_len]; omega)]
          rw [decide_eq_false (by omega)]; rfl
        · rw [(long_scan (s := [47, 47] ++ blanksL i cc) (by rw [List.length_append, blanks_len]; show 20000 < 2 + (i + 1); omega)).2]
          rw [decide_eq_true (by omega)]; rfl
      have e7 : decide ((i : Int) = (i : Nat)) = true := decide_eq_true rfl
      rw [e4]
      exact (congrArg (fun b => ((true && decide ((i : Int) = (i : Nat))) && true) && b) e6).trans (by rw [e7]; rfl)
end Go.Rk
