/- The reference's Scan, Comments, Same; the example that every law checks first. Conditions: what start-up laid. -/
import Derived.Test.YtpbnkinfkkokfaaDoorScanJ
import Derived.KernelRfl
namespace Go.Rk
open Go Go.RowKit
theorem rscan_ok (s : List UInt8) (w : World) : Ret PP fn_r02_Scan #[Str s] w fun v w' => ∃ l, v = .tuple #[l, .int .i64 (scanF s).2.1, .int .i64 (scanF s).2.2] ∧ Toks w.heap.size (scanF s).1 l w' ∧ G w w' := by
  have g := G.refl w
  refine ret_of_sc (m := 21) func_r02_Scan rfl rfl [(0, True, _)] (sub_cons rfl (sub_nil _)) ?_
  refine sc_seq fun K1 hK1 => ?_
  refine sc_text [3, 3, 3] ?_
  refine sr_pu rfl (fun _ => rd_assign ev_c) ?_
  refine sr_pu rfl (fun _ => rd_assign ev_c) ?_
  refine sr_pu rfl (fun _ => rd_assign ev_c) ?_
  refine sr_nil (hK1 _ _ ?_)
  refine sc_seq fun K2 hK2 => ?_
  refine sc_text [3, 1, 3, 3, 3, 3, 3, 3, 3, 3, 3] ?_
  refine sr_pu rfl (fun _ => rd_move (ev_t rfl)) ?_
  refine sr_call rfl (rc_call go_r02_All ev_f (args_cons (ev_t rfl) (args_nil)) rfl) (rall_ok s _) ?_
  rintro v11 w11 ⟨a, b, rfl, hT, g11⟩
  refine ⟨fun _ => g11, ?_⟩
  have g := g.trans g11
  refine sr_pu rfl (fun _ => rd_move (ev_t rfl)) ?_
  refine sr_pu rfl (fun _ => rd_extract (ev_t rfl) rfl) ?_
  refine sr_pu rfl (fun _ => rd_extract (ev_t rfl) rfl) ?_
  refine sr_pu rfl (fun _ => rd_extract (ev_t rfl) rfl) ?_
  refine sr_pu rfl (fun _ => rd_extract (ev_t rfl) rfl) ?_
  refine sr_pu rfl (fun _ => rd_assign (ev_t rfl)) ?_
  refine sr_pu rfl (fun _ => rd_assign (ev_t rfl)) ?_
  refine sr_pu rfl (fun _ => rd_assign (ev_t rfl)) ?_
  refine sr_pu rfl (fun _ => rd_assign (ev_t rfl)) ?_
  refine sr_sub [(2, _, _), (3, _, _), (4, _, _), (5, _, _), (7, _, _), (8, _, _)] (sub_cons rfl (sub_cons rfl (sub_cons rfl (sub_cons rfl (sub_cons rfl (sub_cons rfl (sub_nil _))))))) ?_
  refine sr_nil (hK2 _ _ ?_)
  refine sc_seq fun K3 hK3 => ?_
  refine sc_seq fun K4 hK4 => ?_
  refine sc_text [3, 3] ?_
  refine sr_pu rfl (fun _ => rd_move (ev_t rfl)) ?_
  refine sr_pu rfl (fun _ => rd_ne (ev_t rfl) ev_c) ?_
  refine sr_sub [(2, _, _), (3, _, _), (4, _, _), (5, _, _), (7, _, _), (8, _, _), (17, _, _)] (sub_cons rfl (sub_cons rfl (sub_cons rfl (sub_cons rfl (sub_cons rfl (sub_cons rfl (sub_cons rfl (sub_nil _)))))))) ?_
  refine sr_nil (hK4 _ _ ?_)
  refine sc_cond (ev_t rfl) (fun h1 => ?_) (fun h1 => ?_)
  · have h0 : (!decide ((allF s).2.2.2 = 0)) = true := h1
    refine sc_seq fun K5 hK5 => ?_
    refine sc_text [3, 3, 3, 3, 3] ?_
    refine sr_pu rfl (fun _ => rd_move (ev_t rfl)) ?_
    refine sr_pu rfl (fun _ => rd_move (ev_t rfl)) ?_
    refine sr_pu rfl (fun _ => rd_assign ev_c) ?_
    refine sr_pu rfl (fun _ => rd_assign (ev_t rfl)) ?_
    refine sr_pu rfl (fun _ => rd_assign (ev_t rfl)) ?_
    refine sr_sub [(2, _, _), (3, _, _), (4, _, _), (5, _, _)] (sub_cons rfl (sub_cons rfl (sub_cons rfl (sub_cons rfl (sub_nil _))))) ?_
    refine sr_nil (hK5 _ _ ?_)
    refine sc_ret (t_rets (ts := [2, 3, 4]) (vs := [_, _, _]) rfl rfl rfl ?_)
    refine ⟨.slice none 0 0, ?_, ?_, g⟩
    · show Value.tuple #[_, .int .i64 ((bif !decide ((allF s).2.2.2 = 0) then (allF s).1 else 0 : Nat) : Int), _] = _
      rw [scanF, h0]; rfl
    · rw [scanF, h0]; exact own_none _ _ _ _
  · have h0 : (!decide ((allF s).2.2.2 = 0)) = false := h1
    refine sc_skip (hK3 _ _ ?_)
    refine sc_sub [(2, _, _), (3, _, _), (4, _, _), (5, _, _)] (sub_cons rfl (sub_cons rfl (sub_cons rfl (sub_cons rfl (sub_nil _))))) ?_
    refine sc_seq fun K6 hK6 => ?_
    refine sc_text [3, 3, 3, 3] ?_
    refine sr_pu rfl (fun _ => rd_move (ev_t rfl)) ?_
    refine sr_pu rfl (fun _ => rd_assign (ev_t rfl)) ?_
    refine sr_pu rfl (fun _ => rd_assign ev_c) ?_
    refine sr_pu rfl (fun _ => rd_assign ev_c) ?_
    refine sr_sub [(2, _, _), (3, _, _), (4, _, _)] (sub_cons rfl (sub_cons rfl (sub_cons rfl (sub_nil _)))) ?_
    refine sr_nil (hK6 _ _ ?_)
    refine sc_ret (t_rets (ts := [2, 3, 4]) (vs := [_, _, _]) rfl rfl rfl ?_)
    refine ⟨a, ?_, ?_, g⟩
    · rw [scanF, h0]; rfl
    · rw [scanF, h0]; exact hT.ht
theorem rcomments_ok (s : List UInt8) (w : World) : Ret PP fn_r02_Comments #[Str s] w fun v w' => Toks w.heap.size (allF s).2.2.1 v w' ∧ G w w' := by
  have g := G.refl w
  refine ret_of_sc (m := 15) func_r02_Comments rfl rfl [(0, True, _)] (sub_cons rfl (sub_nil _)) ?_
  refine sc_seq fun K1 hK1 => ?_
  refine sc_text [3] ?_
  refine sr_pu rfl (fun _ => rd_assign ev_c) ?_
  refine sr_nil (hK1 _ _ ?_)
  refine sc_seq fun K2 hK2 => ?_
  refine sc_text [3, 1, 3, 3, 3, 3, 3, 3, 3, 3, 3] ?_
  refine sr_pu rfl (fun _ => rd_move (ev_t rfl)) ?_
  refine sr_call rfl (rc_call go_r02_All ev_f (args_cons (ev_t rfl) (args_nil)) rfl) (rall_ok s _) ?_
  rintro v9 w9 ⟨a, b, rfl, hT, g9⟩
  refine ⟨fun _ => g9, ?_⟩
  have g := g.trans g9
  refine sr_pu rfl (fun _ => rd_move (ev_t rfl)) ?_
  refine sr_pu rfl (fun _ => rd_extract (ev_t rfl) rfl) ?_
  refine sr_pu rfl (fun _ => rd_extract (ev_t rfl) rfl) ?_
  refine sr_pu rfl (fun _ => rd_extract (ev_t rfl) rfl) ?_
  refine sr_pu rfl (fun _ => rd_extract (ev_t rfl) rfl) ?_
  refine sr_pu rfl (fun _ => rd_assign (ev_t rfl)) ?_
  refine sr_pu rfl (fun _ => rd_assign (ev_t rfl)) ?_
  refine sr_pu rfl (fun _ => rd_assign (ev_t rfl)) ?_
  refine sr_pu rfl (fun _ => rd_assign (ev_t rfl)) ?_
  refine sr_sub [(2, _, _), (4, _, _)] (sub_cons rfl (sub_cons rfl (sub_nil _))) ?_
  refine sr_nil (hK2 _ _ ?_)
  refine sc_seq fun K3 hK3 => ?_
  refine sc_text [3, 3] ?_
  refine sr_pu rfl (fun _ => rd_move (ev_t rfl)) ?_
  refine sr_pu rfl (fun _ => rd_assign (ev_t rfl)) ?_
  refine sr_sub [(2, _, _)] (sub_cons rfl (sub_nil _)) ?_
  refine sr_nil (hK3 _ _ ?_)
  refine sc_ret (t_ret1 rfl rfl ?_)
  exact ⟨hT.hc, g⟩
theorem nlTs_len (p : Nat) (ts : List Tok) : (nlTs p ts).length ≤ ts.length + 1 := by
  rw [nlTs_eq]
  cases decide ((0 : Int) < ts.length) && endsT (lastT ts) <;> simp
theorem nextF_grow {s : List UInt8} {p : Nat} (ts cs : List Tok) (h : p < s.length) : ((nextF s p ts cs).2.1.length ≤ ts.length + 1 ∧ (nextF s p ts cs).2.2.1.length ≤ cs.length + 1) ∨ ((nextF s p ts cs).2.1 = ts ∧ (nextF s p ts cs).2.2.1 = cs) := by
  have hn := nlTs_len p ts
  unfold nextF
  cases decide (cAt s p = 10)
  · cases ((decide (cAt s p = 32) || decide (cAt s p = 9)) || decide (cAt s p = 13))
    · cases preB [47, 47] (s.drop p)
      · cases letterB (cAt s p)
        · cases digitB (cAt s p)
          · cases Nat.beq (opLen (s.drop p)) 0
            · left; simp
            · right; exact ⟨rfl, rfl⟩
          · cases badD s p (runN digitB (s.drop p))
            · cases decide (valN 0 ((s.drop p).take (runN digitB (s.drop p))) < 9223372036854775808)
              · right; exact ⟨rfl, rfl⟩
              · left; simp
            · right; exact ⟨rfl, rfl⟩
        · cases decide ((32 : Int) < runN isAlnum (s.drop p))
          · left; simp
          · right; exact ⟨rfl, rfl⟩
      · left; simp
    · right; exact ⟨rfl, rfl⟩
  · left; exact ⟨hn, Nat.le_succ _⟩
theorem goF_len (s : List UInt8) : ∀ (f p : Nat) (ts cs : List Tok), ts.length ≤ p → cs.length ≤ p → p ≤ s.length → (goF s f p ts cs).2.1.length ≤ s.length ∧ (goF s f p ts cs).2.2.1.length ≤ s.length := by
  intro f
  induction f with
  | zero => intro p ts cs h1 h2 h3; exact ⟨by show ts.length ≤ _; omega, by show cs.length ≤ _; omega⟩
  | succ f ih =>
    intro p ts cs h1 h2 h3
    rw [goF]
    cases hp : decide (p < s.length)
    · exact ⟨by show ts.length ≤ _; omega, by show cs.length ≤ _; omega⟩
    · have hp' : p < s.length := of_decide_eq_true hp
      have hg := nextF_grow ts cs hp'
      have hle := nextF_le ts cs hp'
      cases he : decide ((nextF s p ts cs).2.2.2 = 0)
      · simp only [cond_true, cond_false]
        rcases hg with hg | ⟨hg1, hg2⟩
        · omega
        · rw [hg1, hg2]; omega
      · simp only [cond_true]
        have hlt := nextF_lt hp' (of_decide_eq_true he)
        refine ih _ _ _ ?_ ?_ hle
        · rcases hg with hg | ⟨hg1, hg2⟩
          · omega
          · rw [hg1]; omega
        · rcases hg with hg | ⟨hg1, hg2⟩
          · omega
          · rw [hg2]; omega
theorem scanF_len (s : List UInt8) (h : s.length ≤ 20000) : (scanF s).1.length ≤ s.length := by
  rw [scanF, allF, decide_eq_false (by omega : ¬ (20000 : Int) < s.length), cond_false]
  have := goF_len s s.length 0 [] [] (Nat.le_refl _) (Nat.le_refl _) (Nat.zero_le _)
  cases (!decide ((goF s s.length 0 [] []).2.2.2 = 0))
  · exact this.1
  · exact Nat.zero_le _
theorem comF_len (s : List UInt8) (h : s.length ≤ 20000) : (allF s).2.2.1.length ≤ s.length := by
  rw [allF, decide_eq_false (by omega : ¬ (20000 : Int) < s.length), cond_false]
  exact (goF_len s s.length 0 [] [] (Nat.le_refl _) (Nat.le_refl _) (Nat.zero_le _)).2
def tokB (t u : Tok) : Bool := decide (t.kind = u.kind) && (decide (t.text = u.text) && (decide (t.pos = u.pos) && true))
def sameB (a b : List Tok) : Bool := decide (a.length = b.length) && (List.range a.length).all fun i => tokB (a.getD i tok0) (b.getD i tok0)
theorem tokB_refl (t : Tok) : tokB t t = true := by simp [tokB]
theorem sameB_refl (a : List Tok) : sameB a a = true := by simp [sameB, tokB_refl]
theorem sameB_false {a b : List Tok} {i : Nat} (hi : i < a.length) (h : tokB (a.getD i tok0) (b.getD i tok0) = false) : sameB a b = false := by
  rw [sameB, Bool.and_eq_false_iff]
  right
  rw [List.all_eq_false]
  exact ⟨i, List.mem_range.mpr hi, by rw [h]; simp⟩
theorem sameB_true {a b : List Tok} (hl : a.length = b.length) (h : ∀ i, i < a.length → tokB (a.getD i tok0) (b.getD i tok0) = true) : sameB a b = true := by
  rw [sameB, decide_eq_true hl, Bool.true_and, List.all_eq_true]
  intro i hi
  exact h i (List.mem_range.mp hi)
theorem same_ok (a b : List Tok) (va vb : Value) (w : World) (ha : RowT a va w) (hb : RowT b vb w) (hla : a.length < 100000000) : Ret PP fn_r02_Same #[va, vb] w fun v w' => v = .bool (sameB a b) ∧ G w w' := by
  obtain ⟨xa, ca, rfl, hra⟩ := ha
  obtain ⟨xb, cb, rfl, hrb⟩ := hb
  have g := G.refl w
  refine ret_of_sc (m := 26) func_r02_Same rfl rfl [(0, True, _), (1, True, _)] (sub_cons rfl (sub_cons rfl (sub_nil _))) ?_
  refine sc_seq fun K1 hK1 => ?_
  refine sc_text [3] ?_
  refine sr_pu rfl (fun _ => rd_assign ev_c) ?_
  refine sr_nil (hK1 _ _ ?_)
  refine sc_seq fun K2 hK2 => ?_
  refine sc_seq fun K3 hK3 => ?_
  refine sc_text [3, 3, 3, 3, 3] ?_
  refine sr_pu rfl (fun _ => rd_move (ev_t rfl)) ?_
  refine sr_pu rfl (fun _ => rd_len el_sl_api_Token (ev_t rfl)) ?_
  refine sr_pu rfl (fun _ => rd_move (ev_t rfl)) ?_
  refine sr_pu rfl (fun _ => rd_len el_sl_api_Token (ev_t rfl)) ?_
  refine sr_pu rfl (fun _ => rd_ne (ev_t rfl) (ev_t rfl)) ?_
  refine sr_sub [(0, _, _), (1, _, _), (4, _, _), (10, _, _)] (sub_cons rfl (sub_cons rfl (sub_cons rfl (sub_cons rfl (sub_nil _))))) ?_
  refine sr_nil (hK3 _ _ ?_)
  refine sc_cond (ev_t rfl) (fun h1 => ?_) (fun h1 => ?_)
  · have hN : sameB a b = false := by
      have : ¬ a.length = b.length := by simp at h1; omega
      rw [sameB, decide_eq_false this]; rfl
    refine sc_seq fun K4 hK4 => ?_
    refine sc_text [3] ?_
    refine sr_pu rfl (fun _ => rd_assign ev_c) ?_
    refine sr_sub [(0, _, _), (1, _, _), (4, _, _)] (sub_cons rfl (sub_cons rfl (sub_cons rfl (sub_nil _)))) ?_
    refine sr_nil (hK4 _ _ ?_)
    refine sc_ret (t_ret1 rfl rfl ?_)
    rw [hN]; exact ⟨rfl, g⟩
  · have hl : a.length = b.length := by simp at h1; omega
    refine sc_skip (hK2 _ _ ?_)
    refine sc_sub [(0, _, _), (1, _, _), (4, _, _)] (sub_cons rfl (sub_cons rfl (sub_cons rfl (sub_nil _)))) ?_
    refine sc_seq fun K5 hK5 => ?_
    refine sc_seq fun K6 hK6 => ?_
    refine sc_text [3] ?_
    refine sr_pu rfl (fun _ => rd_assign ev_c) ?_
    refine sr_nil (hK6 _ _ ?_)
    refine sc_block ?_
    refine sc_loop (fun (i : Nat) u => i ≤ a.length ∧ (∀ j, j < i → tokB (a.getD j tok0) (b.getD j tok0) = true) ∧ G w u) (fun i => [(0, True, .slice xa a.length ca), (1, True, .slice xb b.length cb), (5, True, .int .i64 i)]) (fun i => a.length - i) 0 ⟨by omega, by intro j hj; omega, g⟩ (sub_cons rfl (sub_cons rfl (sub_cons rfl (sub_nil _)))) ?_
    rintro i u ⟨hi, hall, g⟩
    refine sc_seq fun K7 hK7 => ?_
    refine sc_seq fun K8 hK8 => ?_
    refine sc_text [3, 3, 3, 3] ?_
    refine sr_pu rfl (fun _ => rd_move (ev_t rfl)) ?_
    refine sr_pu rfl (fun _ => rd_move (ev_t rfl)) ?_
    refine sr_pu rfl (fun _ => rd_len el_sl_api_Token (ev_t rfl)) ?_
    refine sr_pu rfl (fun _ => rd_lt (ev_t rfl) (ev_t rfl)) ?_
    refine sr_sub [(0, _, _), (1, _, _), (5, _, _), (14, _, _)] (sub_cons rfl (sub_cons rfl (sub_cons rfl (sub_cons rfl (sub_nil _))))) ?_
    refine sr_nil (hK8 _ _ ?_)
    refine sc_cond (ev_t rfl) (fun h2 => ?_) (fun h2 => ?_)
    · replace h2 : i < a.length := by simp only [decide_eq_true_eq] at h2; omega
      obtain ⟨b1, o1, rfl, r1⟩ := hra (by omega)
      obtain ⟨b2, o2, rfl, r2⟩ := hrb (by omega)
      have t1 := row_tok r1 h2
      have t2 := row_tok r2 (i := i) (by omega)
      refine sc_skip (hK7 _ _ ?_)
      refine sc_sub [(0, _, _), (1, _, _), (5, _, _)] (sub_cons rfl (sub_cons rfl (sub_cons rfl (sub_nil _)))) ?_
      refine sc_seq fun K9 hK9 => ?_
      refine sc_block ?_
      refine sc_seq fun K10 hK10 => ?_
      refine sc_draw [3, 3, 3, 0, 3, 3, 3, 0, 3] [true, true, true, true, true, true, true, true, true] [0, 0, 3, 7, 0, 0, 48, 112, 255] mix (by kernel_rfl) ?_
      have g := g.trans (G.drew _)
      refine sr_pu rfl (fun _ => rd_move (ev_t rfl)) ?_
      refine sr_pu rfl (fun _ => rd_move (ev_t rfl)) ?_
      refine sr_pu rfl (fun _ => rd_idx el_sl_api_Token (ev_t rfl) (ev_t rfl) (fun _ => by omega)) ?_
      refine sr_rd rfl (rd_loads agg_api_Token (ev_t rfl) rfl (fun _ => t1.grow g)) ?_
      refine sr_pu rfl (fun _ => rd_move (ev_t rfl)) ?_
      refine sr_pu rfl (fun _ => rd_move (ev_t rfl)) ?_
      refine sr_pu rfl (fun _ => rd_idx el_sl_api_Token (ev_t rfl) (ev_t rfl) (fun _ => by omega)) ?_
      refine sr_rd rfl (rd_loads agg_api_Token (ev_t rfl) rfl (fun _ => t2.grow g)) ?_
      refine sr_pu rfl (fun _ => rd_stne fl_api_Token (ev_t rfl) (ev_t rfl) rfl) ?_
      refine sr_sub [(0, _, _), (1, _, _), (5, _, _), (25, _, _)] (sub_cons rfl (sub_cons rfl (sub_cons rfl (sub_cons rfl (sub_nil _))))) ?_
      refine sr_nil (hK10 _ _ ?_)
      refine sc_cond (ev_t rfl) (fun h3 => ?_) (fun h3 => ?_)
      · replace h3 : (!tokB (a.getD i tok0) (b.getD i tok0)) = true := h3
        have hN : sameB a b = false := sameB_false h2 (by simpa using h3)
        refine sc_seq fun K11 hK11 => ?_
        refine sc_text [3] ?_
        refine sr_pu rfl (fun _ => rd_assign ev_c) ?_
        refine sr_sub [(0, _, _), (1, _, _), (4, _, _), (5, _, _)] (sub_cons rfl (sub_cons rfl (sub_cons rfl (sub_cons rfl (sub_nil _))))) ?_
        refine sr_nil (hK11 _ _ ?_)
        refine sc_ret (t_ret1 rfl rfl ?_)
        rw [hN]; exact ⟨rfl, g⟩
      · replace h3 : (!tokB (a.getD i tok0) (b.getD i tok0)) = false := h3
        have h4 : tokB (a.getD i tok0) (b.getD i tok0) = true := by simpa using h3
        refine sc_skip (hK9 _ _ ?_)
        refine sc_sub [(0, _, _), (1, _, _), (5, _, _)] (sub_cons rfl (sub_cons rfl (sub_cons rfl (sub_nil _)))) ?_
        refine sc_text [3, 3, 3] ?_
        refine sr_pu rfl (fun _ => rd_move (ev_t rfl)) ?_
        refine sr_pu rfl (fun _ => rd_add (ev_t rfl) ev_c (fun _ => by omega)) ?_
        refine sr_pu rfl (fun _ => rd_assign (ev_t rfl)) ?_
        refine sr_sub [(0, _, _), (1, _, _), (5, _, _)] (sub_cons rfl (sub_cons rfl (sub_cons rfl (sub_nil _)))) ?_
        refine sr_nil (fun a ha => ?_)
        refine ⟨i + 1, ha, ⟨h2, fun j hj => ?_, g⟩, by omega⟩
        by_cases e : j = i
        · rw [e]; exact h4
        · exact hall j (by omega)
    · have hN : sameB a b = true := sameB_true hl fun j hj => hall j (by simp only [decide_eq_false_iff_not] at h2; omega)
      refine sc_exit rfl (hK5 _ _ ?_)
      refine sc_sub [] (sub_nil _) ?_
      refine sc_seq fun K12 hK12 => ?_
      refine sc_text [3] ?_
      refine sr_pu rfl (fun _ => rd_assign ev_c) ?_
      refine sr_nil (hK12 _ _ ?_)
      refine sc_ret (t_ret1 rfl rfl ?_)
      rw [hN]; exact ⟨rfl, g⟩
/-! the example -/
def exA : List UInt8 := [120, 32, 58, 61, 32, 97, 46, 98, 60, 45, 49, 32, 47, 47, 32, 99, 10]
def exB : List UInt8 := [97, 38, 98]
def exC : List UInt8 := [120, 32, 47, 47, 32, 99, 10]
def exT : List Tok := [⟨1, [120], 0⟩, ⟨4, [58, 61], 2⟩, ⟨1, [97], 5⟩, ⟨4, [46], 6⟩, ⟨1, [98], 7⟩, ⟨4, [60, 45], 8⟩, ⟨2, [49], 10⟩, ⟨4, [59], 16⟩]
theorem exA_scan : scanF exA = (exT, 0, 0) := by kernel_rfl
theorem exB_scan : scanF exB = ([], 1, 4) := by kernel_rfl
theorem exC_com : (allF exC).2.2.1 = [⟨5, [47, 47, 32, 99], 2⟩] := by kernel_rfl
theorem exJ : joinF [⟨1, [120], 0⟩, ⟨4, [58, 61], 2⟩] = [120, 32, 58, 61] := by kernel_rfl
theorem kwGo : inB kws [103, 111] = true := by kernel_rfl
theorem RowAt.get {w : World} {b o : Nat} {l : List Value} (h : RowAt w b o l) (i : Nat) {j : Nat} {v : Value} (hi : l[i]? = some v) (hj : j = o + i) : w.cell? ⟨b, j, none⟩ = some v := by subst hj; exact h i v hi
theorem awake_ok (w : World) (hL : Laid w) (hb3 : 3 ≤ w.heap.size) : Ret PP fn_l02_awake #[] w fun v w' => v = .bool true ∧ G w w' := by
  have g := G.refl w
  refine ret_of_sc (m := 80) func_l02_awake rfl rfl [] (sub_nil _) ?_
  refine sc_seq fun K1 hK1 => ?_
  refine sc_text [3] ?_
  refine sr_pu rfl (fun _ => rd_assign ev_c) ?_
  refine sr_nil (hK1 _ _ ?_)
  refine sc_seq fun K2 hK2 => ?_
  refine sc_text [1, 3, 3, 3, 3, 3, 3, 3] ?_
  refine sr_call rfl (rc_call go_scan_Scan ev_f (args_cons ev_c (args_nil)) rfl) (scan_ok exA _ (hL.grow g) hb3) ?_
  rintro v9 w9 ⟨l1, rfl, hT1, g9⟩
  rw [exA_scan] at hT1
  rw [exA_scan]
  refine ⟨fun _ => g9, ?_⟩
  have g := g.trans g9
  obtain ⟨y1, c1, hv1, hc1⟩ := own_sl hT1
  subst hv1
  obtain ⟨b1, c1', hv2, _, hrA, _⟩ := own_pos hT1 (by decide)
  injection hv2 with hv2 _ _
  subst hv2
  replace hc1 : 8 ≤ c1 := hc1
  replace hrA : RowAt w9 b1 0 (toksCells exT) := hrA
  have ga := G.refl w9
  refine sr_pu rfl (fun _ => rd_move (ev_t rfl)) ?_
  refine sr_pu rfl (fun _ => rd_extract (ev_t rfl) rfl) ?_
  refine sr_pu rfl (fun _ => rd_extract (ev_t rfl) rfl) ?_
  refine sr_pu rfl (fun _ => rd_extract (ev_t rfl) rfl) ?_
  refine sr_pu rfl (fun _ => rd_assign (ev_t rfl)) ?_
  refine sr_pu rfl (fun _ => rd_assign (ev_t rfl)) ?_
  refine sr_pu rfl (fun _ => rd_assign (ev_t rfl)) ?_
  refine sr_sub [(0, _, _), (1, _, _), (2, _, _), (3, _, _)] (sub_cons rfl (sub_cons rfl (sub_cons rfl (sub_cons rfl (sub_nil _))))) ?_
  refine sr_nil (hK2 _ _ ?_)
  refine sc_seq fun K3 hK3 => ?_
  refine sc_text [1, 3, 3, 3, 3, 3, 3, 3] ?_
  refine sr_call rfl (rc_call go_scan_Scan ev_f (args_cons ev_c (args_nil)) rfl) (scan_ok exB _ (hL.grow g) (by have := g.size; omega)) ?_
  rintro v14 w14 ⟨l2, rfl, hT2, g14⟩
  rw [exB_scan]
  refine ⟨fun _ => g14, ?_⟩
  have g := g.trans g14
  have ga := ga.trans g14
  refine sr_pu rfl (fun _ => rd_move (ev_t rfl)) ?_
  refine sr_pu rfl (fun _ => rd_extract (ev_t rfl) rfl) ?_
  refine sr_pu rfl (fun _ => rd_extract (ev_t rfl) rfl) ?_
  refine sr_pu rfl (fun _ => rd_extract (ev_t rfl) rfl) ?_
  refine sr_pu rfl (fun _ => rd_assign (ev_t rfl)) ?_
  refine sr_pu rfl (fun _ => rd_assign (ev_t rfl)) ?_
  refine sr_pu rfl (fun _ => rd_assign (ev_t rfl)) ?_
  refine sr_sub [(0, _, _), (1, _, _), (2, _, _), (3, _, _), (5, _, _), (6, _, _)] (sub_cons rfl (sub_cons rfl (sub_cons rfl (sub_cons rfl (sub_cons rfl (sub_cons rfl (sub_nil _))))))) ?_
  refine sr_nil (hK3 _ _ ?_)
  refine sc_seq fun K4 hK4 => ?_
  refine sc_text [1, 3] ?_
  refine sr_call rfl (rc_call go_scan_Comments ev_f (args_cons ev_c (args_nil)) rfl) (comments_ok exC _ (hL.grow g) (by have := g.size; omega)) ?_
  rintro v18 w18 ⟨hT3, g18⟩
  rw [exC_com] at hT3
  refine ⟨fun _ => g18, ?_⟩
  have g := g.trans g18
  have ga := ga.trans g18
  obtain ⟨b3, c3, hv3, _, hrC, _⟩ := own_pos hT3 (by decide)
  subst hv3
  refine sr_pu rfl (fun _ => rd_assign (ev_t rfl)) ?_
  refine sr_sub [(0, _, _), (1, _, _), (2, _, _), (3, _, _), (5, _, _), (6, _, _), (7, _, _)] (sub_cons rfl (sub_cons rfl (sub_cons rfl (sub_cons rfl (sub_cons rfl (sub_cons rfl (sub_cons rfl (sub_nil _)))))))) ?_
  refine sr_nil (hK4 _ _ ?_)
  refine sc_seq fun K5 hK5 => ?_
  refine sc_text [3, 3, 3, 3, 3, 3, 3, 0, 3, 3, 3, 3, 3, 3, 0, 3, 3, 3, 3, 3, 0, 3, 3, 3, 3, 3, 3, 3, 3, 3, 3, 3, 3, 3, 3, 3, 3, 3, 3, 3, 3, 3, 3, 3, 3, 3, 3, 3, 3, 0, 3, 3, 3, 1, 3, 3, 3, 3, 1, 3, 3, 3] ?_
  refine sr_pu rfl (fun _ => rd_move (ev_t rfl)) ?_
  refine sr_pu rfl (fun _ => rd_len el_sl_api_Token (ev_t rfl)) ?_
  refine sr_pu rfl (fun _ => rd_eq (ev_t rfl) ev_c) ?_
  refine sr_pu rfl (fun _ => rd_move (ev_t rfl)) ?_
  refine sr_pug rfl rfl rfl (fun _ => rd_move (ev_t rfl)) ?_
  refine sr_pug rfl rfl rfl (fun _ => rd_idx el_sl_api_Token (ev_u rfl id) ev_c (fun _ => by decide)) ?_
  refine sr_pug rfl rfl rfl (fun _ => rd_field fo_api_Token_1 (ev_u rfl id)) ?_
  refine sr_rdg rfl rfl rfl (rd_load one_string (ev_u rfl id) (fun _ => (hrA.grow ga).get 16 rfl rfl)) ?_
  refine sr_pug rfl rfl rfl (fun _ => rd_seq (ev_u rfl id) ev_c) ?_
  refine sr_pu rfl (fun _ => rd_pick_and (ev_t rfl) (ev_u rfl id)) ?_
  refine sr_pu rfl (fun _ => rd_move (ev_t rfl)) ?_
  refine sr_pug rfl rfl rfl (fun _ => rd_move (ev_t rfl)) ?_
  refine sr_pug rfl rfl rfl (fun _ => rd_idx el_sl_api_Token (ev_u rfl id) ev_c (fun _ => by decide)) ?_
  refine sr_pug rfl rfl rfl (fun _ => rd_field fo_api_Token_0 (ev_u rfl id)) ?_
  refine sr_rdg rfl rfl rfl (rd_load one_int (ev_u rfl id) (fun _ => (hrA.grow ga).get 18 rfl rfl)) ?_
  refine sr_pug rfl rfl rfl (fun _ => rd_eq (ev_u rfl id) ev_c) ?_
  refine sr_pu rfl (fun _ => rd_pick_and (ev_t rfl) (ev_u rfl id)) ?_
  refine sr_pu rfl (fun _ => rd_move (ev_t rfl)) ?_
  refine sr_pug rfl rfl rfl (fun _ => rd_move (ev_t rfl)) ?_
  refine sr_pug rfl rfl rfl (fun _ => rd_idx el_sl_api_Token (ev_u rfl id) ev_c (fun _ => by decide)) ?_
  refine sr_rdg rfl rfl rfl (rd_loads agg_api_Token (ev_u rfl id) rfl (fun _ => (hrA.grow ga).part 21 3)) ?_
  refine sr_pug rfl rfl rfl (fun _ => rd_build [_, _, _] ze_api_Token rfl pl_api_Token (parts_cons ev_c (parts_cons ev_c (parts_cons ev_c (parts_nil)))) rfl) ?_
  refine sr_pug rfl rfl rfl (fun _ => rd_steq fl_api_Token (ev_u rfl id) (ev_u rfl id) rfl) ?_
  refine sr_pu rfl (fun _ => rd_pick_and (ev_t rfl) (ev_u rfl id)) ?_
  refine sr_pu rfl (fun _ => rd_move (ev_t rfl)) ?_
  refine sr_pug rfl rfl rfl (fun _ => rd_move (ev_t rfl)) ?_
  refine sr_pug rfl rfl rfl (fun _ => rd_eq (ev_u rfl id) ev_c) ?_
  refine sr_pu rfl (fun _ => rd_pick_and (ev_t rfl) (ev_u rfl id)) ?_
  refine sr_pu rfl (fun _ => rd_move (ev_t rfl)) ?_
  refine sr_pug rfl rfl rfl (fun _ => rd_move (ev_t rfl)) ?_
  refine sr_pug rfl rfl rfl (fun _ => rd_eq (ev_u rfl id) ev_c) ?_
  refine sr_pu rfl (fun _ => rd_pick_and (ev_t rfl) (ev_u rfl id)) ?_
  refine sr_pu rfl (fun _ => rd_move (ev_t rfl)) ?_
  refine sr_pug rfl rfl rfl (fun _ => rd_move (ev_t rfl)) ?_
  refine sr_pug rfl rfl rfl (fun _ => rd_eq (ev_u rfl id) ev_c) ?_
  refine sr_pu rfl (fun _ => rd_pick_and (ev_t rfl) (ev_u rfl id)) ?_
  refine sr_pu rfl (fun _ => rd_move (ev_t rfl)) ?_
  refine sr_pug rfl rfl rfl (fun _ => rd_move (ev_t rfl)) ?_
  refine sr_pug rfl rfl rfl (fun _ => rd_eq (ev_u rfl id) ev_c) ?_
  refine sr_pu rfl (fun _ => rd_pick_and (ev_t rfl) (ev_u rfl id)) ?_
  refine sr_pu rfl (fun _ => rd_move (ev_t rfl)) ?_
  refine sr_pug rfl rfl rfl (fun _ => rd_move (ev_t rfl)) ?_
  refine sr_pug rfl rfl rfl (fun _ => rd_len el_sl_api_Token (ev_u rfl id)) ?_
  refine sr_pug rfl rfl rfl (fun _ => rd_eq (ev_u rfl id) ev_c) ?_
  refine sr_pu rfl (fun _ => rd_pick_and (ev_t rfl) (ev_u rfl id)) ?_
  refine sr_pu rfl (fun _ => rd_move (ev_t rfl)) ?_
  refine sr_pug rfl rfl rfl (fun _ => rd_move (ev_t rfl)) ?_
  refine sr_pug rfl rfl rfl (fun _ => rd_idx el_sl_api_Token (ev_u rfl id) ev_c (fun _ => by decide)) ?_
  refine sr_pug rfl rfl rfl (fun _ => rd_field fo_api_Token_2 (ev_u rfl id)) ?_
  refine sr_rdg rfl rfl rfl (rd_load one_int (ev_u rfl id) (fun _ => hrC.get 2 rfl rfl)) ?_
  refine sr_pug rfl rfl rfl (fun _ => rd_eq (ev_u rfl id) ev_c) ?_
  refine sr_pu rfl (fun _ => rd_pick_and (ev_t rfl) (ev_u rfl id)) ?_
  refine sr_pu rfl (fun _ => rd_move (ev_t rfl)) ?_
  refine sr_pureg rfl rfl rfl (fun _ => (rc_call go_scan_Keyword ev_f (args_cons ev_c (args_nil)) rfl)) (fun hc => keyword_ok _ _) (fun w72 g72 => ?_)
  have g := g.trans g72
  have ga := ga.trans g72
  refine sr_pu rfl (fun _ => rd_pick_and (ev_t rfl) (ev_u rfl id)) ?_
  refine sr_pu rfl (fun _ => rd_move (ev_t rfl)) ?_
  refine sr_pug rfl rfl rfl (fun _ => rd_move (ev_t rfl)) ?_
  refine sr_pug rfl rfl rfl (fun _ => rd_sl_to el_sl_api_Token (ev_u rfl id) ev_c (fun _ => ⟨by decide, by omega⟩)) ?_
  refine sr_pureg rfl rfl rfl (fun _ => (rc_call go_scan_Join ev_f (args_cons (ev_u rfl id) (args_nil)) rfl)) (fun hc => join_ok [⟨1, [120], 0⟩, ⟨4, [58, 61], 2⟩] _ _ (by rw [exJ]; decide) ⟨_, _, rfl, fun _ => ⟨b1, 0, rfl, (hrA.grow ga).part 0 6⟩⟩ (by decide)) (fun w77 g77 => ?_)
  have g := g.trans (g77)
  refine sr_pug rfl rfl rfl (fun _ => rd_seq (ev_u rfl id) ev_c) ?_
  refine sr_pu rfl (fun _ => rd_pick_and (ev_t rfl) (ev_u rfl id)) ?_
  refine sr_pu rfl (fun _ => rd_assign (ev_t rfl)) ?_
  refine sr_sub [(0, _, _)] (sub_cons rfl (sub_nil _)) ?_
  refine sr_nil (hK5 _ _ ?_)
  refine sc_ret (t_ret1 rfl rfl ?_)
  refine ⟨congrArg Value.bool ?_, g⟩
  kernel_rfl
theorem tokens_ok (s : List UInt8) (w : World) (hL : Laid w) (hb3 : 3 ≤ w.heap.size) : Ret PP fn_l02_ScanTokens #[Str s] w fun v w' => v = .bool true ∧ G w w' := by
  have g := G.refl w
  refine ret_of_sc (m := 39) func_l02_ScanTokens rfl rfl [(0, True, _)] (sub_cons rfl (sub_nil _)) ?_
  refine sc_seq fun K1 hK1 => ?_
  refine sc_text [3] ?_
  refine sr_pu rfl (fun _ => rd_assign ev_c) ?_
  refine sr_nil (hK1 _ _ ?_)
  refine sc_seq fun K2 hK2 => ?_
  refine sc_seq fun K3 hK3 => ?_
  refine sc_text [1, 3] ?_
  refine sr_pure rfl (rc_call go_l02_awake ev_f (args_nil) rfl) (awake_ok _ (hL.grow g) (by have := g.size; omega)) (fun w9 g9 => ?_)
  have g := g.trans (g9)
  refine sr_pu rfl (fun _ => rd_not (ev_t rfl)) ?_
  refine sr_sub [(0, _, _), (2, _, _), (10, _, _)] (sub_cons rfl (sub_cons rfl (sub_cons rfl (sub_nil _)))) ?_
  refine sr_nil (hK3 _ _ ?_)
  refine sc_false (ev_t rfl) ?_
  refine sc_skip (hK2 _ _ ?_)
  refine sc_sub [(0, _, _), (2, _, _)] (sub_cons rfl (sub_cons rfl (sub_nil _))) ?_
  refine sc_seq fun K4 hK4 => ?_
  refine sc_seq fun K5 hK5 => ?_
  refine sc_text [3, 3, 3] ?_
  refine sr_pu rfl (fun _ => rd_move (ev_t rfl)) ?_
  refine sr_pu rfl (fun _ => rd_slen str_string (ev_t rfl)) ?_
  refine sr_pu rfl (fun _ => rd_gt (ev_t rfl) ev_c) ?_
  refine sr_sub [(0, _, _), (2, _, _), (13, _, _)] (sub_cons rfl (sub_cons rfl (sub_cons rfl (sub_nil _)))) ?_
  refine sr_nil (hK5 _ _ ?_)
  refine sc_cond (ev_t rfl) (fun h2 => ?_) (fun h2 => ?_)
  · (try simp only [bsimp] at h2)
    refine sc_seq fun K6 hK6 => ?_
    refine sc_text [3] ?_
    refine sr_pu rfl (fun _ => rd_assign ev_c) ?_
    refine sr_sub [(0, _, _), (2, _, _)] (sub_cons rfl (sub_cons rfl (sub_nil _))) ?_
    refine sr_nil (hK6 _ _ ?_)
    refine sc_ret (t_ret1 rfl rfl ?_)
    exact ⟨rfl, g⟩
  · have hs : s.length ≤ 600 := by simp only [decide_eq_false_iff_not] at h2; omega
    refine sc_skip (hK4 _ _ ?_)
    refine sc_sub [(0, _, _), (2, _, _)] (sub_cons rfl (sub_cons rfl (sub_nil _))) ?_
    refine sc_seq fun K7 hK7 => ?_
    refine sc_text [3, 1, 3, 3, 3, 3, 3, 3, 3] ?_
    refine sr_pu rfl (fun _ => rd_move (ev_t rfl)) ?_
    refine sr_call rfl (rc_call go_scan_Scan ev_f (args_cons (ev_t rfl) (args_nil)) rfl) (scan_ok s _ (hL.grow g) (by have := g.size; omega)) ?_
    rintro v16 w16 ⟨l1, rfl, hT1, g16⟩
    refine ⟨fun _ => g16, ?_⟩
    have g := g.trans g16
    have hR1 := hT1.row
    refine sr_pu rfl (fun _ => rd_move (ev_t rfl)) ?_
    refine sr_pu rfl (fun _ => rd_extract (ev_t rfl) rfl) ?_
    refine sr_pu rfl (fun _ => rd_extract (ev_t rfl) rfl) ?_
    refine sr_pu rfl (fun _ => rd_extract (ev_t rfl) rfl) ?_
    refine sr_pu rfl (fun _ => rd_assign (ev_t rfl)) ?_
    refine sr_pu rfl (fun _ => rd_assign (ev_t rfl)) ?_
    refine sr_pu rfl (fun _ => rd_assign (ev_t rfl)) ?_
    refine sr_sub [(0, _, _), (2, _, _), (3, _, _), (4, _, _), (5, _, _)] (sub_cons rfl (sub_cons rfl (sub_cons rfl (sub_cons rfl (sub_cons rfl (sub_nil _)))))) ?_
    refine sr_nil (hK7 _ _ ?_)
    refine sc_seq fun K8 hK8 => ?_
    refine sc_text [3, 1, 3, 3, 3, 3, 3, 3, 3] ?_
    refine sr_pu rfl (fun _ => rd_move (ev_t rfl)) ?_
    refine sr_call rfl (rc_call go_r02_Scan ev_f (args_cons (ev_t rfl) (args_nil)) rfl) (rscan_ok s _) ?_
    rintro v22 w22 ⟨l2, rfl, hT2, g22⟩
    refine ⟨fun _ => g22, ?_⟩
    have g := g.trans g22
    have hR1 := hR1.grow g22
    have hR2 := hT2.row
    have hlen := scanF_len s (by omega)
    refine sr_pu rfl (fun _ => rd_move (ev_t rfl)) ?_
    refine sr_pu rfl (fun _ => rd_extract (ev_t rfl) rfl) ?_
    refine sr_pu rfl (fun _ => rd_extract (ev_t rfl) rfl) ?_
    refine sr_pu rfl (fun _ => rd_extract (ev_t rfl) rfl) ?_
    refine sr_pu rfl (fun _ => rd_assign (ev_t rfl)) ?_
    refine sr_pu rfl (fun _ => rd_assign (ev_t rfl)) ?_
    refine sr_pu rfl (fun _ => rd_assign (ev_t rfl)) ?_
    refine sr_sub [(2, _, _), (3, _, _), (4, _, _), (5, _, _), (6, _, _), (7, _, _), (8, _, _)] (sub_cons rfl (sub_cons rfl (sub_cons rfl (sub_cons rfl (sub_cons rfl (sub_cons rfl (sub_cons rfl (sub_nil _)))))))) ?_
    refine sr_nil (hK8 _ _ ?_)
    refine sc_seq fun K9 hK9 => ?_
    refine sc_text [3, 3, 3, 3, 3, 3, 3, 3, 3, 3, 3, 1, 3, 3] ?_
    refine sr_pu rfl (fun _ => rd_move (ev_t rfl)) ?_
    refine sr_pu rfl (fun _ => rd_move (ev_t rfl)) ?_
    refine sr_pu rfl (fun _ => rd_eq (ev_t rfl) (ev_t rfl)) ?_
    refine sr_pu rfl (fun _ => rd_move (ev_t rfl)) ?_
    refine sr_pug rfl rfl rfl (fun _ => rd_move (ev_t rfl)) ?_
    refine sr_pug rfl rfl rfl (fun _ => rd_move (ev_t rfl)) ?_
    refine sr_pug rfl rfl rfl (fun _ => rd_eq (ev_u rfl id) (ev_u rfl id)) ?_
    refine sr_pu rfl (fun _ => rd_pick_and (ev_t rfl) (ev_u rfl id)) ?_
    refine sr_pu rfl (fun _ => rd_move (ev_t rfl)) ?_
    refine sr_pug rfl rfl rfl (fun _ => rd_move (ev_t rfl)) ?_
    refine sr_pug rfl rfl rfl (fun _ => rd_move (ev_t rfl)) ?_
    refine sr_pureg rfl rfl rfl (fun _ => (rc_call go_r02_Same ev_f (args_cons (ev_u rfl id) (args_cons (ev_u rfl id) (args_nil))) rfl)) (fun hc => same_ok _ _ _ _ _ hR1 hR2 (by omega)) (fun w37 g37 => ?_)
    have g := g.trans (g37)
    refine sr_pu rfl (fun _ => rd_pick_and (ev_t rfl) (ev_u rfl id)) ?_
    refine sr_pu rfl (fun _ => rd_assign (ev_t rfl)) ?_
    refine sr_sub [(2, _, _)] (sub_cons rfl (sub_nil _)) ?_
    refine sr_nil (hK9 _ _ ?_)
    refine sc_ret (t_ret1 rfl rfl ?_)
    refine ⟨congrArg Value.bool ?_, g⟩
    rw [decide_eq_true rfl, decide_eq_true rfl, sameB_refl]; rfl
theorem comments_law (s : List UInt8) (w : World) (hL : Laid w) (hb3 : 3 ≤ w.heap.size) : Ret PP fn_l02_ScanComments #[Str s] w fun v w' => v = .bool true ∧ G w w' := by
  have g := G.refl w
  refine ret_of_sc (m := 15) func_l02_ScanComments rfl rfl [(0, True, _)] (sub_cons rfl (sub_nil _)) ?_
  refine sc_seq fun K1 hK1 => ?_
  refine sc_text [3] ?_
  refine sr_pu rfl (fun _ => rd_assign ev_c) ?_
  refine sr_nil (hK1 _ _ ?_)
  refine sc_seq fun K2 hK2 => ?_
  refine sc_seq fun K3 hK3 => ?_
  refine sc_text [1, 3] ?_
  refine sr_pure rfl (rc_call go_l02_awake ev_f (args_nil) rfl) (awake_ok _ (hL.grow g) (by have := g.size; omega)) (fun w3 g3 => ?_)
  have g := g.trans (g3)
  refine sr_pu rfl (fun _ => rd_not (ev_t rfl)) ?_
  refine sr_sub [(0, _, _), (2, _, _), (4, _, _)] (sub_cons rfl (sub_cons rfl (sub_cons rfl (sub_nil _)))) ?_
  refine sr_nil (hK3 _ _ ?_)
  refine sc_false (ev_t rfl) ?_
  refine sc_skip (hK2 _ _ ?_)
  refine sc_sub [(0, _, _), (2, _, _)] (sub_cons rfl (sub_cons rfl (sub_nil _))) ?_
  refine sc_seq fun K4 hK4 => ?_
  refine sc_text [3, 3, 3, 3, 3, 1, 3, 1, 1, 3, 3] ?_
  refine sr_pu rfl (fun _ => rd_move (ev_t rfl)) ?_
  refine sr_pu rfl (fun _ => rd_slen str_string (ev_t rfl)) ?_
  refine sr_pu rfl (fun _ => rd_gt (ev_t rfl) ev_c) ?_
  refine sr_pu rfl (fun _ => rd_move (ev_t rfl)) ?_
  refine sr_pug rfl rfl rfl (fun _ => rd_move (ev_t rfl)) ?_
  refine sr_callq rfl rfl rfl (fun _ => rc_call go_scan_Comments ev_f (args_cons (ev_u rfl id) (args_nil)) rfl) (fun hc => comments_ok s _ (hL.grow g) (by have := g.size; omega)) ?_
  intro v10 w10 hT1 g10
  have g := g.trans g10
  refine sr_pug rfl rfl rfl (fun _ => rd_move (ev_t rfl)) ?_
  refine sr_callq rfl rfl rfl (fun _ => rc_call go_r02_Comments ev_f (args_cons (ev_u rfl id) (args_nil)) rfl) (fun hc => rcomments_ok s _) ?_
  intro v12 w12 hT2 g12
  have g := g.trans g12
  refine sr_pureg rfl rfl rfl (fun _ => (rc_call go_r02_Same ev_f (args_cons (ev_u rfl id) (args_cons (ev_u rfl id) (args_nil))) rfl)) (fun hc => same_ok (allF s).2.2.1 (allF s).2.2.1 _ _ _ ((hT1 hc).row.grow g12) (hT2 hc).row (by have := comF_len s (by have : ¬ (600 : Int) < s.length := of_decide_eq_false hc.2; omega); have : ¬ (600 : Int) < s.length := of_decide_eq_false hc.2; omega)) (fun w13 g13 => ?_)
  have g := g.trans (g13)
  refine sr_pu rfl (fun _ => rd_pick_or (ev_t rfl) (ev_u rfl id)) ?_
  refine sr_pu rfl (fun _ => rd_assign (ev_t rfl)) ?_
  refine sr_sub [(2, _, _)] (sub_cons rfl (sub_nil _)) ?_
  refine sr_nil (hK4 _ _ ?_)
  refine sc_ret (t_ret1 rfl rfl ?_)
  refine ⟨congrArg Value.bool ?_, g⟩
  rw [sameB_refl]; simp
end Go.Rk
