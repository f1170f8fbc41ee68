/- Scan and Comments. Conditions: what start-up laid. -/
import Derived.Test.YtheifopckahdiaaDoorScanE
namespace Go.Rk
open Go Go.RowKit
def goF (s : List UInt8) : Nat → Nat → List Tok → List Tok → Nat × List Tok × List Tok × Int
  | 0, p, ts, cs => (p, ts, cs, 0)
  | f + 1, p, ts, cs => bif decide (p < s.length) then bif decide ((nextF s p ts cs).2.2.2 = 0) then goF s f (nextF s p ts cs).1 (nextF s p ts cs).2.1 (nextF s p ts cs).2.2.1 else nextF s p ts cs else (p, ts, cs, 0)
def allF (s : List UInt8) : Nat × List Tok × List Tok × Int := bif decide ((20000 : Int) < s.length) then (0, [], [], 3) else goF s s.length 0 [] []
theorem nextF_lt {s : List UInt8} {p : Nat} {ts cs : List Tok} (h : p < s.length) (he : (nextF s p ts cs).2.2.2 = 0) : p < (nextF s p ts cs).1 := by
  unfold nextF at he ⊢
  cases h1 : decide (cAt s p = 10)
  · cases h2 : ((decide (cAt s p = 32) || decide (cAt s p = 9)) || decide (cAt s p = 13))
    · cases h3 : preB [47, 47] (s.drop p)
      · cases h4 : letterB (cAt s p)
        · cases h7 : digitB (cAt s p)
          · cases h8 : Nat.beq (opLen (s.drop p)) 0
            · simp only [cond_true, cond_false]
              have : opLen (s.drop p) ≠ 0 := by intro h0; rw [h0] at h8; cases h8
              omega
            · rw [h1, h2, h3, h4, h7, h8] at he; simp at he
          · have := runN_pos (q := digitB) h h7
            rw [h1, h2, h3, h4, h7] at he
            cases h8 : badD s p (runN digitB (s.drop p))
            · rw [h8] at he
              cases h9 : decide (valN 0 ((s.drop p).take (runN digitB (s.drop p))) < 9223372036854775808)
              · rw [h9] at he; simp at he
              · simp only [cond_true, cond_false]; omega
            · rw [h8] at he; simp at he
        · have := runN_pos (q := isAlnum) h (by rw [isAlnum, h4]; rfl)
          rw [h1, h2, h3, h4] at he
          cases h5 : decide ((32 : Int) < runN isAlnum (s.drop p))
          · simp only [cond_true, cond_false]; omega
          · rw [h5] at he; simp at he
      · have := runN_pos (q := isNotLf) h (by rw [isNotLf, h1]; rfl)
        simp only [cond_true, cond_false]; omega
    · simp only [cond_true, cond_false]; omega
  · simp only [cond_true, cond_false]; omega
theorem all_ok (s : List UInt8) (w : World) (hL : Laid w) (hb3 : 4 ≤ w.heap.size) :
    Ret PP fn_scan_all #[Str s] w fun v w' => ∃ b ta tc ca cc, v = .tuple #[.pointer (some ⟨b, 0, none⟩), .int .i64 (allF s).2.2.2] ∧ SA w.heap.size b s (allF s).1 (allF s).2.1 (allF s).2.2.1 ta tc ca cc w' ∧ G w w' := by
  have g := G.refl w
  refine ret_of_sc (m := 27) func_scan_all rfl rfl [(0, True, _)] (sub_cons rfl (sub_nil _)) ?_
  refine sc_seq fun K1 hK1 => ?_
  refine sc_text [3, 3] ?_
  refine sr_pu rfl (fun _ => rd_assign ev_c) ?_
  refine sr_pu rfl (fun _ => rd_assign ev_c) ?_
  refine sr_nil (hK1 _ _ ?_)
  refine sc_seq fun K2 hK2 => ?_
  refine sc_text [3, 3, 1, 3] ?_
  refine sr_pu rfl (fun _ => rd_move (ev_t rfl)) ?_
  refine sr_pu rfl (fun _ => rd_build [_, _, _, _] ze_scan_scanner rfl pl_scan_scanner (parts_cons (ev_t rfl) (parts_nil)) rfl) ?_
  refine sr_box rfl (ev_t rfl) rfl ?_
  intro b8 w8 N8
  have l8 := N8.ge g
  have g := g.trans (N8.g)
  have B8 := N8.blk
  refine sr_pu rfl (fun _ => rd_assign (ev_t rfl)) ?_
  refine sr_sub [(0, _, _), (2, _, _), (3, _, _), (4, _, _)] (sub_cons rfl (sub_cons rfl (sub_cons rfl (sub_cons rfl (sub_nil _))))) ?_
  refine sr_nil (hK2 _ _ ?_)
  refine sc_seq fun K3 hK3 => ?_
  refine sc_seq fun K4 hK4 => ?_
  refine sc_text [3, 3, 3] ?_
  refine sr_pu rfl (fun _ => rd_move (ev_t rfl)) ?_
  refine sr_pu rfl (fun _ => rd_slen str_string (ev_t rfl)) ?_
  refine sr_pu rfl (fun _ => rd_gt (ev_t rfl) ev_c) ?_
  refine sr_sub [(0, _, _), (2, _, _), (3, _, _), (4, _, _), (11, _, _)] (sub_cons rfl (sub_cons rfl (sub_cons rfl (sub_cons rfl (sub_cons rfl (sub_nil _)))))) ?_
  refine sr_nil (hK4 _ _ ?_)
  refine sc_cond (ev_t rfl) (fun h1 => ?_) (fun h1 => ?_)
  · have hN : allF s = (0, [], [], 3) := by unfold allF; rw [h1]; rfl
    refine sc_seq fun K5 hK5 => ?_
    refine sc_text [3, 3, 3] ?_
    refine sr_pu rfl (fun _ => rd_move (ev_t rfl)) ?_
    refine sr_pu rfl (fun _ => rd_assign (ev_t rfl)) ?_
    refine sr_pu rfl (fun _ => rd_assign ev_c) ?_
    refine sr_sub [(0, _, _), (2, _, _), (3, _, _), (4, _, _)] (sub_cons rfl (sub_cons rfl (sub_cons rfl (sub_cons rfl (sub_nil _))))) ?_
    refine sr_nil (hK5 _ _ ?_)
    refine sc_ret (t_rets (ts := [2, 3]) (vs := [_, _]) rfl rfl rfl ?_)
    rw [hN]; exact ⟨b8, none, 0, none, 0, rfl, ⟨B8, l8, own_none _ _ _ _, own_none _ _ _ _, (by intro h; cases h), (by intro h; cases h), (by intro k h; cases h)⟩, g⟩
  · have hN : allF s = goF s s.length 0 [] [] := by unfold allF; rw [h1]; rfl
    simp only [decide_eq_false_iff_not] at h1
    refine sc_skip (hK3 _ _ ?_)
    refine sc_sub [(0, _, _), (2, _, _), (3, _, _), (4, _, _)] (sub_cons rfl (sub_cons rfl (sub_cons rfl (sub_cons rfl (sub_nil _))))) ?_
    refine sc_seq fun K6 hK6 => ?_
    refine sc_block ?_
    refine sc_loop (fun (x : Nat × List Tok × List Tok × Nat) u => Scn w.heap.size b8 s x.1 x.2.1 x.2.2.1 u ∧ s.length - x.1 ≤ x.2.2.2 ∧ goF s x.2.2.2 x.1 x.2.1 x.2.2.1 = goF s s.length 0 [] [] ∧ G w u) (fun _ => [(0, True, Str s), (4, True, .pointer (some ⟨b8, 0, none⟩))]) (fun x => s.length - x.1) (0, [], [], s.length)
      ⟨(show SA w.heap.size b8 s 0 [] [] none 0 none 0 w8 from ⟨B8, l8, own_none _ _ _ _, own_none _ _ _ _, (by intro h; cases h), (by intro h; cases h), (by intro k h; cases h)⟩).scn (Nat.zero_le _) (Nat.zero_le _) (Nat.zero_le _) (by omega), Nat.sub_le _ _, rfl, g⟩ (sub_cons rfl (sub_cons rfl (sub_nil _))) ?_
    rintro ⟨p, ts, cs, f⟩ u ⟨hs, hf, he, g⟩
    simp only at hs hf he
    obtain ⟨ta, tc, ca, cc, hA, k1, k2, k3, k4⟩ := hs.sa
    refine sc_seq fun K7 hK7 => ?_
    refine sc_seq fun K8 hK8 => ?_
    refine sc_text [3, 3, 3, 0, 3, 3, 3] ?_
    refine sr_pu rfl (fun _ => rd_move (ev_t rfl)) ?_
    refine sr_pu rfl (fun _ => rd_nil (ev_t rfl)) ?_
    refine sr_pu rfl (fun _ => rd_field fo_scan_scanner_1 (ev_t rfl)) ?_
    refine sr_rd rfl (rd_load one_int (ev_t rfl) (fun _ => hA.B.at_ rfl)) ?_
    refine sr_pu rfl (fun _ => rd_move (ev_t rfl)) ?_
    refine sr_pu rfl (fun _ => rd_slen str_string (ev_t rfl)) ?_
    refine sr_pu rfl (fun _ => rd_lt (ev_t rfl) (ev_t rfl)) ?_
    refine sr_sub [(0, _, _), (4, _, _), (19, _, _)] (sub_cons rfl (sub_cons rfl (sub_cons rfl (sub_nil _)))) ?_
    refine sr_nil (hK8 _ _ ?_)
    refine sc_cond (ev_t rfl) (fun h2 => ?_) (fun h2 => ?_)
    · replace h2 : p < s.length := by simp only [decide_eq_true_eq] at h2; omega
      obtain ⟨f', rfl⟩ : ∃ f', f = f' + 1 := ⟨f - 1, by omega⟩
      rw [goF, decide_eq_true h2, cond_true] at he
      refine sc_skip (hK7 _ _ ?_)
      refine sc_sub [(0, _, _), (4, _, _)] (sub_cons rfl (sub_cons rfl (sub_nil _))) ?_
      refine sc_block ?_
      refine sc_seq fun K9 hK9 => ?_
      refine sc_text [3, 2, 3] ?_
      refine sr_pu rfl (fun _ => rd_move (ev_t rfl)) ?_
      refine sr_call rfl (rc_call go_scan_scanner_next ev_f (args_cons (ev_t rfl) (args_nil)) rfl) (next_ok _ _ hb3 s p ts cs _ (hL.grow g) hs h2) ?_
      rintro v21 w21 ⟨rfl, hs', hb'⟩
      refine ⟨fun h => absurd h (by decide), ?_⟩
      have g : G w w21 := Below.trans g hb'
      refine sr_pu rfl (fun _ => rd_assign (ev_t rfl)) ?_
      refine sr_sub [(0, _, _), (4, _, _), (5, _, _)] (sub_cons rfl (sub_cons rfl (sub_cons rfl (sub_nil _)))) ?_
      refine sr_nil (hK9 _ _ ?_)
      refine sc_seq fun K10 hK10 => ?_
      refine sc_text [3, 3] ?_
      refine sr_pu rfl (fun _ => rd_move (ev_t rfl)) ?_
      refine sr_pu rfl (fun _ => rd_ne (ev_t rfl) ev_c) ?_
      refine sr_sub [(0, _, _), (4, _, _), (5, _, _), (23, _, _)] (sub_cons rfl (sub_cons rfl (sub_cons rfl (sub_cons rfl (sub_nil _))))) ?_
      refine sr_nil (hK10 _ _ ?_)
      refine sc_cond (ev_t rfl) (fun h3 => ?_) (fun h3 => ?_)
      · replace h3 : decide ((nextF s p ts cs).2.2.2 = 0) = false := by simpa using h3
        rw [h3, cond_false] at he
        refine sc_seq fun K11 hK11 => ?_
        refine sc_text [3, 3, 3, 3] ?_
        refine sr_pu rfl (fun _ => rd_move (ev_t rfl)) ?_
        refine sr_pu rfl (fun _ => rd_move (ev_t rfl)) ?_
        refine sr_pu rfl (fun _ => rd_assign (ev_t rfl)) ?_
        refine sr_pu rfl (fun _ => rd_assign (ev_t rfl)) ?_
        refine sr_sub [(0, _, _), (2, _, _), (3, _, _), (4, _, _)] (sub_cons rfl (sub_cons rfl (sub_cons rfl (sub_cons rfl (sub_nil _))))) ?_
        refine sr_nil (hK11 _ _ ?_)
        refine sc_ret (t_rets (ts := [2, 3]) (vs := [_, _]) rfl rfl rfl ?_)
        rw [hN, ← he]
        obtain ⟨ta, tc, ca, cc, hA, _⟩ := hs'.sa
        exact ⟨b8, ta, tc, ca, cc, rfl, hA, g⟩
      · replace h3 : (nextF s p ts cs).2.2.2 = 0 := by simpa using h3
        have hlt := nextF_lt h2 h3
        rw [decide_eq_true h3, cond_true] at he
        refine sc_sub [(0, _, _), (4, _, _)] (sub_cons rfl (sub_cons rfl (sub_nil _))) ?_
        refine sc_skip (fun a ha => ?_)
        exact ⟨(_, _, _, f'), ha, ⟨hs', by show s.length - (nextF s p ts cs).1 ≤ f'; omega, he, g⟩, by show s.length - (nextF s p ts cs).1 < s.length - p; omega⟩
    · have hp : p = s.length := by simp only [decide_eq_false_iff_not] at h2; omega
      have he : (p, ts, cs, (0 : Int)) = goF s s.length 0 [] [] := by
        rw [← he]
        cases f with
        | zero => rfl
        | succ f' => rw [goF, decide_eq_false (by omega : ¬ p < s.length)]; rfl
      refine sc_exit rfl (hK6 _ _ ?_)
      refine sc_sub [(4, _, _)] (sub_cons rfl (sub_nil _)) ?_
      refine sc_seq fun K12 hK12 => ?_
      refine sc_text [3, 3, 3] ?_
      refine sr_pu rfl (fun _ => rd_move (ev_t rfl)) ?_
      refine sr_pu rfl (fun _ => rd_assign (ev_t rfl)) ?_
      refine sr_pu rfl (fun _ => rd_assign ev_c) ?_
      refine sr_nil (hK12 _ _ ?_)
      refine sc_sub [(2, _, _), (3, _, _), (4, _, _), (26, _, _)] (sub_cons rfl (sub_cons rfl (sub_cons rfl (sub_cons rfl (sub_nil _))))) ?_
      refine sc_ret (t_rets (ts := [2, 3]) (vs := [_, _]) rfl rfl rfl ?_)
      rw [hN, ← he]
      exact ⟨b8, ta, tc, ca, cc, rfl, hA, g⟩
def scanF (s : List UInt8) : List Tok × Nat × Int := bif !decide ((allF s).2.2.2 = 0) then ([], (allF s).1, (allF s).2.2.2) else ((allF s).2.1, 0, 0)
/-- A list of tokens as a fresh row. -/
def Toks (base : Nat) (l : List Tok) (v : Value) (w : World) : Prop := w.ownsRow base ty_api_Token 3 v l.length (toksCells l)
theorem scan_ok (s : List UInt8) (w : World) (hL : Laid w) (hb3 : 4 ≤ w.heap.size) :
    Ret PP fn_scan_Scan #[Str s] w fun v w' => ∃ l, v = .tuple #[l, .int .i64 (scanF s).2.1, .int .i64 (scanF s).2.2] ∧ Toks w.heap.size (scanF s).1 l w' ∧ G w w' := by
  have g := G.refl w
  refine ret_of_sc (m := 23) func_scan_Scan rfl rfl [(0, True, _)] (sub_cons rfl (sub_nil _)) ?_
  refine sc_seq fun K1 hK1 => ?_
  refine sc_text [3, 3, 3] ?_
  refine sr_pu rfl (fun _ => rd_assign ev_c) ?_
  refine sr_pu rfl (fun _ => rd_assign ev_c) ?_
  refine sr_pu rfl (fun _ => rd_assign ev_c) ?_
  refine sr_nil (hK1 _ _ ?_)
  refine sc_seq fun K2 hK2 => ?_
  refine sc_text [3, 1, 3, 3, 3, 3, 3] ?_
  refine sr_pu rfl (fun _ => rd_move (ev_t rfl)) ?_
  refine sr_call rfl (rc_call go_scan_all ev_f (args_cons (ev_t rfl) (args_nil)) rfl) (all_ok s _ (hL.grow g) hb3) ?_
  rintro v9 w9 ⟨b, ta, tc, ca, cc, rfl, hA, g9⟩
  refine ⟨fun _ => g9, ?_⟩
  have g := g.trans g9
  refine sr_pu rfl (fun _ => rd_move (ev_t rfl)) ?_
  refine sr_pu rfl (fun _ => rd_extract (ev_t rfl) rfl) ?_
  refine sr_pu rfl (fun _ => rd_extract (ev_t rfl) rfl) ?_
  refine sr_pu rfl (fun _ => rd_assign (ev_t rfl)) ?_
  refine sr_pu rfl (fun _ => rd_assign (ev_t rfl)) ?_
  refine sr_sub [(2, _, _), (3, _, _), (4, _, _), (5, _, _), (6, _, _)] (sub_cons rfl (sub_cons rfl (sub_cons rfl (sub_cons rfl (sub_cons rfl (sub_nil _)))))) ?_
  refine sr_nil (hK2 _ _ ?_)
  refine sc_seq fun K3 hK3 => ?_
  refine sc_seq fun K4 hK4 => ?_
  refine sc_text [3, 3] ?_
  refine sr_pu rfl (fun _ => rd_move (ev_t rfl)) ?_
  refine sr_pu rfl (fun _ => rd_ne (ev_t rfl) ev_c) ?_
  refine sr_sub [(2, _, _), (3, _, _), (4, _, _), (5, _, _), (6, _, _), (13, _, _)] (sub_cons rfl (sub_cons rfl (sub_cons rfl (sub_cons rfl (sub_cons rfl (sub_cons rfl (sub_nil _))))))) ?_
  refine sr_nil (hK4 _ _ ?_)
  refine sc_cond (ev_t rfl) (fun h1 => ?_) (fun h1 => ?_)
  · (try simp only [bsimp] at h1)
    refine sc_seq fun K5 hK5 => ?_
    refine sc_draw [3, 3, 3, 0, 3, 3, 3, 3] [true, true, true, true, true, true, true, true] [0, 1, 3, 7, 0, 0, 47, 127] mix (by kernel_rfl) ?_
    have g := g.trans (G.drew _)
    have gh := G.drew w9
    refine sr_pu rfl (fun _ => rd_move (ev_t rfl)) ?_
    refine sr_pu rfl (fun _ => rd_nil (ev_t rfl)) ?_
    refine sr_pu rfl (fun _ => rd_field fo_scan_scanner_1 (ev_t rfl)) ?_
    refine sr_rd rfl (rd_load one_int (ev_t rfl) (fun _ => by first | exact (hA.grow gh).B.at_ rfl)) ?_
    refine sr_pu rfl (fun _ => rd_move (ev_t rfl)) ?_
    refine sr_pu rfl (fun _ => rd_assign ev_c) ?_
    refine sr_pu rfl (fun _ => rd_assign (ev_t rfl)) ?_
    refine sr_pu rfl (fun _ => rd_assign (ev_t rfl)) ?_
    refine sr_sub [(2, _, _), (3, _, _), (4, _, _), (5, _, _)] (sub_cons rfl (sub_cons rfl (sub_cons rfl (sub_cons rfl (sub_nil _))))) ?_
    refine sr_nil (hK5 _ _ ?_)
    refine sc_ret (t_rets (ts := [2, 3, 4]) (vs := [_, _, _]) rfl rfl rfl ?_)
    refine ⟨.slice none 0 0, ?_, ?_, g⟩
    · rw [scanF, show (!decide ((allF s).2.2.2 = 0)) = true from h1]; rfl
    · rw [scanF, show (!decide ((allF s).2.2.2 = 0)) = true from h1]; exact own_none _ _ _ _
  · have gh := G.refl w9
    refine sc_skip (hK3 _ _ ?_)
    refine sc_sub [(2, _, _), (3, _, _), (4, _, _), (5, _, _)] (sub_cons rfl (sub_cons rfl (sub_cons rfl (sub_cons rfl (sub_nil _))))) ?_
    refine sc_seq fun K6 hK6 => ?_
    refine sc_text [3, 3, 3, 0, 3, 3, 3] ?_
    refine sr_pu rfl (fun _ => rd_move (ev_t rfl)) ?_
    refine sr_pu rfl (fun _ => rd_nil (ev_t rfl)) ?_
    refine sr_pu rfl (fun _ => rd_field fo_scan_scanner_2 (ev_t rfl)) ?_
    refine sr_rd rfl (rd_load one_sl_api_Token (ev_t rfl) (fun _ => by first | exact (hA.grow gh).B.at_ rfl)) ?_
    refine sr_pu rfl (fun _ => rd_assign (ev_t rfl)) ?_
    refine sr_pu rfl (fun _ => rd_assign ev_c) ?_
    refine sr_pu rfl (fun _ => rd_assign ev_c) ?_
    refine sr_sub [(2, _, _), (3, _, _), (4, _, _)] (sub_cons rfl (sub_cons rfl (sub_cons rfl (sub_nil _)))) ?_
    refine sr_nil (hK6 _ _ ?_)
    refine sc_ret (t_rets (ts := [2, 3, 4]) (vs := [_, _, _]) rfl rfl rfl ?_)
    refine ⟨.slice ta (allF s).2.1.length tc, ?_, ?_, g⟩
    · rw [scanF, show (!decide ((allF s).2.2.2 = 0)) = false from h1]; rfl
    · rw [scanF, show (!decide ((allF s).2.2.2 = 0)) = false from h1]; exact hA.ht
end Go.Rk
