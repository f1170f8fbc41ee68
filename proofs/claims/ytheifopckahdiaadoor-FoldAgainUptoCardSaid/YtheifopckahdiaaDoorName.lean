/- Names: the scanner's and the reference's say the same. Conditions: what start-up laid. -/
import Derived.Test.YtheifopckahdiaaDoorScanF
import Derived.Test.YtheifopckahdiaaDoorTree
import Derived.KernelRfl
namespace Go.Rk
open Go Go.RowKit
theorem rlet_ok (c : Int) (w : World) : Ret PP fn_r02_letter #[.int .u8 c] w fun v w' => v = .bool (letterB c) ∧ G w w' := by
  have g := G.refl w
  refine ret_of_sc (m := 21) func_r02_letter rfl rfl [(0, True, _)] (sub_cons rfl (sub_nil _)) ?_
  refine sc_seq fun K1 hK1 => ?_
  refine sc_text [3] ?_
  refine sr_pu rfl (fun _ => rd_assign ev_c) ?_
  refine sr_nil (hK1 _ _ ?_)
  refine sc_seq fun K2 hK2 => ?_
  refine sc_text [3, 3, 3, 3, 3, 3, 3, 3, 3, 3, 3, 3, 3, 3, 3, 3, 3, 3, 3] ?_
  refine sr_pu rfl (fun _ => rd_move (ev_t rfl)) ?_
  refine sr_pu rfl (fun _ => rd_ge (ev_t rfl) ev_c) ?_
  refine sr_pu rfl (fun _ => rd_move (ev_t rfl)) ?_
  refine sr_pug rfl rfl rfl (fun _ => rd_move (ev_t rfl)) ?_
  refine sr_pug rfl rfl rfl (fun _ => rd_le (ev_u rfl id) ev_c) ?_
  refine sr_pu rfl (fun _ => rd_pick_and (ev_t rfl) (ev_u rfl id)) ?_
  refine sr_pu rfl (fun _ => rd_move (ev_t rfl)) ?_
  refine sr_pug rfl rfl rfl (fun _ => rd_move (ev_t rfl)) ?_
  refine sr_pug rfl rfl rfl (fun _ => rd_ge (ev_u rfl id) ev_c) ?_
  refine sr_pug rfl rfl rfl (fun _ => rd_move (ev_u rfl id)) ?_
  refine sr_pug rfl rfl rfl (fun _ => rd_move (ev_t rfl)) ?_
  refine sr_pug rfl rfl rfl (fun _ => rd_le (ev_u rfl id) ev_c) ?_
  refine sr_pug rfl rfl rfl (fun _ => rd_pick_and (ev_u rfl id) (ev_u rfl id)) ?_
  refine sr_pu rfl (fun _ => rd_pick_or (ev_t rfl) (ev_u rfl id)) ?_
  refine sr_pu rfl (fun _ => rd_move (ev_t rfl)) ?_
  refine sr_pug rfl rfl rfl (fun _ => rd_move (ev_t rfl)) ?_
  refine sr_pug rfl rfl rfl (fun _ => rd_eq (ev_u rfl id) ev_c) ?_
  refine sr_pu rfl (fun _ => rd_pick_or (ev_t rfl) (ev_u rfl id)) ?_
  refine sr_pu rfl (fun _ => rd_assign (ev_t rfl)) ?_
  refine sr_sub [(2, _, _)] (sub_cons rfl (sub_nil _)) ?_
  refine sr_nil (hK2 _ _ ?_)
  refine sc_ret (t_ret1 rfl rfl ?_)
  exact ⟨rfl, g⟩
theorem rdig_ok (c : Int) (w : World) : Ret PP fn_r02_digit #[.int .u8 c] w fun v w' => v = .bool (digitB c) ∧ G w w' := by
  have g := G.refl w
  refine ret_of_sc (m := 9) func_r02_digit rfl rfl [(0, True, _)] (sub_cons rfl (sub_nil _)) ?_
  refine sc_seq fun K1 hK1 => ?_
  refine sc_text [3] ?_
  refine sr_pu rfl (fun _ => rd_assign ev_c) ?_
  refine sr_nil (hK1 _ _ ?_)
  refine sc_seq fun K2 hK2 => ?_
  refine sc_text [3, 3, 3, 3, 3, 3, 3] ?_
  refine sr_pu rfl (fun _ => rd_move (ev_t rfl)) ?_
  refine sr_pu rfl (fun _ => rd_ge (ev_t rfl) ev_c) ?_
  refine sr_pu rfl (fun _ => rd_move (ev_t rfl)) ?_
  refine sr_pug rfl rfl rfl (fun _ => rd_move (ev_t rfl)) ?_
  refine sr_pug rfl rfl rfl (fun _ => rd_le (ev_u rfl id) ev_c) ?_
  refine sr_pu rfl (fun _ => rd_pick_and (ev_t rfl) (ev_u rfl id)) ?_
  refine sr_pu rfl (fun _ => rd_assign (ev_t rfl)) ?_
  refine sr_sub [(2, _, _)] (sub_cons rfl (sub_nil _)) ?_
  refine sr_nil (hK2 _ _ ?_)
  refine sc_ret (t_ret1 rfl rfl ?_)
  exact ⟨rfl, g⟩
def alB (c : UInt8) : Bool := letterB c.toNat || digitB c.toNat
def nameB (s : List UInt8) : Bool := !(((decide (s = []) || decide ((32 : Int) < s.length)) || !letterB (cAt s 0)) || inB kws s) && (s.drop 1).all alB
theorem cAt_lt {s : List UInt8} {i : Nat} (h : i < s.length) : cAt s i = (s[i].toNat : Int) := by simp [cAt, List.getD_eq_getElem?_getD, List.getElem?_eq_getElem h]
theorem rname_ok (s : List UInt8) (w : World) : Ret PP fn_r02_Name #[Str s] w fun v w' => v = .bool (nameB s) ∧ G w w' := by
  have g := G.refl w
  refine ret_of_sc (m := 39) func_r02_Name rfl rfl [(0, True, _)] (sub_cons rfl (sub_nil _)) ?_
  refine sc_seq fun K1 hK1 => ?_
  refine sc_text [3] ?_
  refine sr_pu rfl (fun _ => rd_assign ev_c) ?_
  refine sr_nil (hK1 _ _ ?_)
  refine sc_seq fun K2 hK2 => ?_
  refine sc_seq fun K3 hK3 => ?_
  refine sc_text [3, 3, 3, 3, 3, 3, 3, 3, 3, 3, 1, 3, 3, 3, 3, 1, 3] ?_
  refine sr_pu rfl (fun _ => rd_move (ev_t rfl)) ?_
  refine sr_pu rfl (fun _ => rd_seq (ev_t rfl) ev_c) ?_
  refine sr_pu rfl (fun _ => rd_move (ev_t rfl)) ?_
  refine sr_pug rfl rfl rfl (fun _ => rd_move (ev_t rfl)) ?_
  refine sr_pug rfl rfl rfl (fun _ => rd_slen str_string (ev_u rfl id)) ?_
  refine sr_pug rfl rfl rfl (fun _ => rd_gt (ev_u rfl id) ev_c) ?_
  refine sr_pu rfl (fun _ => rd_pick_or (ev_t rfl) (ev_u rfl id)) ?_
  refine sr_pu rfl (fun _ => rd_move (ev_t rfl)) ?_
  refine sr_pug rfl rfl rfl (fun _ => rd_move (ev_t rfl)) ?_
  refine sr_pug rfl rfl rfl (fun _ => rd_sidx str_string (ev_u rfl id) ev_c (fun hc => by
  have h1 := hc.2; simp only [Bool.or_eq_false_iff, decide_eq_false_iff_not] at h1
  have : s.length ≠ 0 := fun h => h1.1 (List.length_eq_zero_iff.1 h)
  omega)) ?_
  refine sr_pureg rfl rfl rfl (fun _ => (rc_call go_r02_letter ev_f (args_cons (ev_u rfl id) (args_nil)) rfl)) (fun hc => rlet_ok _ _) (fun w14 g14 => ?_)
  have g := g.trans (g14)
  refine sr_pug rfl rfl rfl (fun _ => rd_not (ev_u rfl id)) ?_
  refine sr_pu rfl (fun _ => rd_pick_or (ev_t rfl) (ev_u rfl id)) ?_
  refine sr_pu rfl (fun _ => rd_move (ev_t rfl)) ?_
  refine sr_pug rfl rfl rfl (fun _ => rd_move (ev_t rfl)) ?_
  refine sr_pureg rfl rfl rfl (fun _ => (rc_call go_r02_Keyword ev_f (args_cons (ev_u rfl id) (args_nil)) rfl)) (fun hc => rkeyword_ok _ _) (fun w19 g19 => ?_)
  have g := g.trans (g19)
  refine sr_pu rfl (fun _ => rd_pick_or (ev_t rfl) (ev_u rfl id)) ?_
  refine sr_sub [(0, _, _), (2, _, _), (20, _, _)] (sub_cons rfl (sub_cons rfl (sub_cons rfl (sub_nil _)))) ?_
  refine sr_nil (hK3 _ _ ?_)
  refine sc_cond (ev_t rfl) (fun h1 => ?_) (fun h1 => ?_)
  · (try simp only [bsimp] at h1)
    refine sc_seq fun K4 hK4 => ?_
    refine sc_text [3] ?_
    refine sr_pu rfl (fun _ => rd_assign ev_c) ?_
    refine sr_sub [(0, _, _), (2, _, _)] (sub_cons rfl (sub_cons rfl (sub_nil _))) ?_
    refine sr_nil (hK4 _ _ ?_)
    refine sc_ret (t_ret1 rfl rfl ?_)
    refine ⟨congrArg Value.bool ?_, g⟩
    unfold nameB; rw [show (((decide (s = []) || decide ((32 : Int) < s.length)) || !letterB (cAt s 0)) || inB kws s) = true from h1]; rfl
  · have hn : nameB s = (s.drop 1).all alB := by unfold nameB; rw [show (((decide (s = []) || decide ((32 : Int) < s.length)) || !letterB (cAt s 0)) || inB kws s) = false from h1]; rfl
    have hl32 : s.length ≤ 32 := by
      simp only [Bool.or_eq_false_iff, decide_eq_false_iff_not] at h1; omega
    refine sc_skip (hK2 _ _ ?_)
    refine sc_sub [(0, _, _), (2, _, _)] (sub_cons rfl (sub_cons rfl (sub_nil _))) ?_
    refine sc_seq fun K5 hK5 => ?_
    refine sc_seq fun K6 hK6 => ?_
    refine sc_text [3] ?_
    refine sr_pu rfl (fun _ => rd_assign ev_c) ?_
    refine sr_nil (hK6 _ _ ?_)
    refine sc_block ?_
    refine sc_loop2 (fun (i : Nat) u1 => (1 ≤ i ∧ ∀ j, 1 ≤ j → (h : j < s.length) → j < i → alB s[j] = true) ∧ G w19 u1) [(0, True, _)] (fun (i : Nat) => [(3, True, .int .i64 i)]) (fun (i : Nat) => s.length - i) (1) ⟨⟨by omega, fun j h1 _ h2 => by omega⟩, G.refl _⟩ (sub_cons rfl (sub_cons rfl (sub_nil _))) ?_
    rintro i u1 ⟨hI1, gl1⟩
    have g := g.trans gl1
    refine sc_seq fun K7 hK7 => ?_
    refine sc_seq fun K8 hK8 => ?_
    refine sc_text [3, 3, 3, 3] ?_
    refine sr_pu rfl (fun _ => rd_move (ev_t rfl)) ?_
    refine sr_pu rfl (fun _ => rd_move (ev_t rfl)) ?_
    refine sr_pu rfl (fun _ => rd_slen str_string (ev_t rfl)) ?_
    refine sr_pu rfl (fun _ => rd_lt (ev_t rfl) (ev_t rfl)) ?_
    refine sr_sub [(0, _, _), (3, _, _), (24, _, _)] (sub_cons rfl (sub_cons rfl (sub_cons rfl (sub_nil _)))) ?_
    refine sr_nil (hK8 _ _ ?_)
    refine sc_cond (ev_t rfl) (fun h2 => ?_) (fun h2 => ?_)
    · replace h2 : i < s.length := by simp only [decide_eq_true_eq] at h2; omega
      refine sc_skip (hK7 _ _ ?_)
      refine sc_sub [(0, _, _), (3, _, _)] (sub_cons rfl (sub_cons rfl (sub_nil _))) ?_
      refine sc_seq fun K9 hK9 => ?_
      refine sc_block ?_
      refine sc_seq fun K10 hK10 => ?_
      refine sc_text [3, 3, 3, 1, 3, 3, 3, 3, 3, 1, 3, 3] ?_
      refine sr_pu rfl (fun _ => rd_move (ev_t rfl)) ?_
      refine sr_pu rfl (fun _ => rd_move (ev_t rfl)) ?_
      refine sr_pu rfl (fun _ => rd_sidx str_string (ev_t rfl) (ev_t rfl) (fun _ => by omega)) ?_
      refine sr_pure rfl (rc_call go_r02_letter ev_f (args_cons (ev_t rfl) (args_nil)) rfl) (rlet_ok _ _) (fun w30 g30 => ?_)
      have g := g.trans (g30)
      try have gl1 := gl1.trans (g30)
      refine sr_pu rfl (fun _ => rd_not (ev_t rfl)) ?_
      refine sr_pu rfl (fun _ => rd_move (ev_t rfl)) ?_
      refine sr_pug rfl rfl rfl (fun _ => rd_move (ev_t rfl)) ?_
      refine sr_pug rfl rfl rfl (fun _ => rd_move (ev_t rfl)) ?_
      refine sr_pug rfl rfl rfl (fun _ => rd_sidx str_string (ev_u rfl id) (ev_u rfl id) (fun hc => by omega)) ?_
      refine sr_pureg rfl rfl rfl (fun _ => (rc_call go_r02_digit ev_f (args_cons (ev_u rfl id) (args_nil)) rfl)) (fun hc => rdig_ok _ _) (fun w36 g36 => ?_)
      have g := g.trans (g36)
      try have gl1 := gl1.trans (g36)
      refine sr_pug rfl rfl rfl (fun _ => rd_not (ev_u rfl id)) ?_
      refine sr_pu rfl (fun _ => rd_pick_and (ev_t rfl) (ev_u rfl id)) ?_
      refine sr_sub [(0, _, _), (3, _, _), (38, _, _)] (sub_cons rfl (sub_cons rfl (sub_cons rfl (sub_nil _)))) ?_
      refine sr_nil (hK10 _ _ ?_)
      refine sc_cond (ev_t rfl) (fun h3 => ?_) (fun h3 => ?_)
      · have h3' : alB s[i] = false := by
          rw [alB, ← cAt_lt h2]; simpa [cAt] using h3
        refine sc_seq fun K11 hK11 => ?_
        refine sc_text [3] ?_
        refine sr_pu rfl (fun _ => rd_assign ev_c) ?_
        refine sr_sub [(0, _, _), (2, _, _), (3, _, _)] (sub_cons rfl (sub_cons rfl (sub_cons rfl (sub_nil _)))) ?_
        refine sr_nil (hK11 _ _ ?_)
        refine sc_ret (t_ret1 rfl rfl ?_)
        refine ⟨congrArg Value.bool ?_, g⟩
        rw [hn, eq_comm, List.all_eq_false]
        exact ⟨s[i], List.mem_drop_iff_getElem.2 ⟨i - 1, by omega, by congr 1; omega⟩, by rw [h3']; simp⟩
      · have h3' : alB s[i] = true := by
          rw [alB, ← cAt_lt h2]
          cases ha : letterB (cAt s i)
          · cases hb : digitB (cAt s i)
            · exfalso
              have h3 : (!letterB (cAt s i) && !digitB (cAt s i)) = false := h3
              rw [ha, hb] at h3; cases h3
            · rfl
          · rfl
        refine sc_skip (hK9 _ _ ?_)
        refine sc_sub [(0, _, _), (3, _, _)] (sub_cons rfl (sub_cons rfl (sub_nil _))) ?_
        refine sc_text [3, 3, 3] ?_
        refine sr_pu rfl (fun _ => rd_move (ev_t rfl)) ?_
        refine sr_pu rfl (fun _ => rd_add (ev_t rfl) ev_c (fun _ => by omega)) ?_
        refine sr_pu rfl (fun _ => rd_assign (ev_t rfl)) ?_
        refine sr_sub [(3, _, _), (0, _, _)] (sub_cons rfl (sub_cons rfl (sub_nil _))) ?_
        refine sr_nil (fun a ha => ?_)
        refine ⟨i + 1, ha, ⟨⟨by omega, fun j h4 h5 h6 => ?_⟩, gl1⟩, by omega⟩
        by_cases e : j = i
        · subst e; exact h3'
        · exact hI1.2 j h4 h5 (by omega)
    · replace h2 : s.length ≤ i := by simp only [decide_eq_false_iff_not] at h2; omega
      refine sc_exit rfl (hK5 _ _ ?_)
      refine sc_sub [] (sub_nil _) ?_
      refine sc_seq fun K12 hK12 => ?_
      refine sc_text [3] ?_
      refine sr_pu rfl (fun _ => rd_assign ev_c) ?_
      refine sr_nil (hK12 _ _ ?_)
      refine sc_ret (t_ret1 rfl rfl ?_)
      refine ⟨congrArg Value.bool ?_, g⟩
      rw [hn, eq_comm, List.all_eq_true]
      intro x hx
      obtain ⟨j, hj, rfl⟩ := List.mem_drop_iff_getElem.1 hx
      exact hI1.2 _ (by omega) (by omega) (by omega)
/-! the same by the scanner -/
theorem letter_not {c : Int} (h : letterB c = true) : decide (c = 10) = false ∧ ((decide (c = 32) || decide (c = 9)) || decide (c = 13)) = false ∧ decide (c = 47) = false := by
  simp only [letterB, Bool.or_eq_true, Bool.and_eq_true, decide_eq_true_eq] at h
  simp only [Bool.or_eq_false_iff, decide_eq_false_iff_not]
  omega
theorem runN_full {q : Int → Bool} : ∀ {l : List UInt8}, (∀ c ∈ l, q c.toNat = true) → runN q l = l.length
  | [], _ => rfl
  | c :: l, h => by
    rw [runN, if_pos (h c (List.mem_cons_self ..)), runN_full fun x hx => h x (List.mem_cons_of_mem _ hx)]; rfl
theorem name_run {s : List UInt8} (h : nameB s = true) : s.length ≠ 0 ∧ s.length ≤ 32 ∧ letterB (cAt s 0) = true ∧ inB kws s = false ∧ runN isAlnum s = s.length := by
  unfold nameB at h
  simp only [Bool.and_eq_true, Bool.not_eq_true', Bool.or_eq_false_iff, decide_eq_false_iff_not, Bool.not_eq_false'] at h
  obtain ⟨⟨⟨⟨h1, h2⟩, h3⟩, h4⟩, h5⟩ := h
  refine ⟨fun e => h1 (List.length_eq_zero_iff.1 e), by omega, h3, h4, runN_full fun c hc => ?_⟩
  cases s with
  | nil => cases hc
  | cons a l =>
    rcases List.mem_cons.1 hc with rfl | hc
    · have : letterB (c.toNat : Int) = true := h3
      rw [isAlnum, this]; rfl
    · exact List.all_eq_true.1 h5 c hc
theorem pre_slash {l : List UInt8} (h : decide (cAt l 0 = 47) = false) : preB [47, 47] l = false := by
  cases l with
  | nil => rfl
  | cons a l =>
    have : ¬ (a.toNat : Int) = 47 := of_decide_eq_false h
    unfold preB
    rw [Bool.and_eq_false_iff]; right
    rw [decide_eq_false_iff_not]
    intro e
    rw [List.length_cons, List.take_succ_cons] at e
    injection e with e1 _
    subst e1
    exact this rfl
theorem name_scan {s : List UInt8} (h : nameB s = true) : scanF s = ([⟨1, s, 0⟩], 0, 0) := by
  obtain ⟨h0, h1, h2, h3, h4⟩ := name_run h
  obtain ⟨a1, a2, a3⟩ := letter_not h2
  have hN : nextF s 0 [] [] = (s.length, [⟨1, s, 0⟩], [], 0) := by
    unfold nextF
    rw [a1, a2, show s.drop 0 = s from rfl, pre_slash a3, h2, h4, decide_eq_false (by omega : ¬ (32 : Int) < (s.length : Nat)), List.take_of_length_le (Nat.le_refl _), wordK, h3]
    simp
  have hG : goF s s.length 0 [] [] = (s.length, [⟨1, s, 0⟩], [], 0) := by
    obtain ⟨m, hm⟩ : ∃ m, s.length = m + 1 := ⟨s.length - 1, by omega⟩
    rw [hm, goF, decide_eq_true (by omega : 0 < s.length), hN]
    simp only [cond_true, decide_true]
    cases m with
    | zero => rw [goF, hm]
    | succ m => rw [goF, decide_eq_false (by omega), cond_false, hm]
  rw [scanF, allF, decide_eq_false (by omega : ¬ (20000 : Int) < s.length), cond_false, hG]
  rfl
def NameTok (t : Tok) : Prop := t.kind = 1 → nameB t.text = true
theorem nextF_name {s : List UInt8} {p : Nat} {ts : List Tok} (cs : List Tok) (hp : p < s.length) (h : ∀ t ∈ ts, NameTok t) : ∀ t ∈ (nextF s p ts cs).2.1, NameTok t := by
  have hn : ∀ (l : List Tok) (t : Tok), (∀ t ∈ l, NameTok t) → NameTok t → ∀ u ∈ l ++ [t], NameTok u := by
    intro l t hl ht u hu
    rcases List.mem_append.1 hu with hu | hu
    · exact hl u hu
    · rw [List.mem_singleton.1 hu]; exact ht
  unfold nextF
  cases h1 : decide (cAt s p = 10)
  · cases h2 : ((decide (cAt s p = 32) || decide (cAt s p = 9)) || decide (cAt s p = 13))
    · cases h3 : preB [47, 47] (s.drop p)
      · cases h4 : letterB (cAt s p)
        · cases h7 : digitB (cAt s p)
          · cases h8 : Nat.beq (opLen (s.drop p)) 0
            · exact hn _ _ h (fun e => by simp at e)
            · exact h
          · cases h8 : badD s p (runN digitB (s.drop p))
            · cases h9 : decide (valN 0 ((s.drop p).take (runN digitB (s.drop p))) < 9223372036854775808)
              · exact h
              · exact hn _ _ h (fun e => by simp at e)
            · exact h
        · cases h5 : decide ((32 : Int) < runN isAlnum (s.drop p))
          · refine hn _ _ h (fun e => ?_)
            simp only at e ⊢
            have hq : isAlnum (cAt s p) = true := by rw [isAlnum, h4]; rfl
            have hpos := runN_pos hp hq
            have hfit := runN_fit isAlnum hp
            have hall := runN_all isAlnum (s.drop p)
            generalize hX : (s.drop p).take (runN isAlnum (s.drop p)) = x at e hall ⊢
            have hl : x.length = runN isAlnum (s.drop p) := by rw [← hX, List.length_take, List.length_drop]; omega
            have hk : inB kws x = false := by
              cases hk : inB kws x
              · rfl
              · rw [wordK, hk] at e; cases e
            have hc : cAt x 0 = cAt s p := by
              rw [← hX]
              unfold cAt
              simp [List.getD_eq_getElem?_getD, List.getElem?_take, show 0 < runN isAlnum (s.drop p) from hpos]
            have h5' := of_decide_eq_false h5
            unfold nameB
            rw [decide_eq_false (by omega : ¬ (32 : Int) < (x.length : Nat)), hc, h4, hk, decide_eq_false (by intro e0; rw [e0] at hl; simp at hl; omega)]
            simp only [Bool.not_true, Bool.or_false, Bool.not_false, Bool.true_and]
            rw [List.all_eq_true]
            intro c hc
            exact hall c (List.mem_of_mem_drop hc)
          · exact h
      · exact h
    · exact h
  · show ∀ t ∈ nlTs p ts, NameTok t
    intro t ht
    have : nlTs p ts = ts ∨ ∃ q, nlTs p ts = ts ++ [⟨4, [59], q⟩] := by
      unfold nlTs
      cases ts.getLast? with
      | none => exact .inl rfl
      | some u => simp only []; split <;> first | exact .inl rfl | exact .inr ⟨_, rfl⟩
    rcases this with e | ⟨q, e⟩
    · rw [e] at ht; exact h t ht
    · rw [e] at ht; exact hn _ _ h (fun e => by simp at e) t ht
theorem goF_name (s : List UInt8) : ∀ (f p : Nat) (ts cs : List Tok), (∀ t ∈ ts, NameTok t) → ∀ t ∈ (goF s f p ts cs).2.1, NameTok t
  | 0, _, _, _, h => h
  | f + 1, p, ts, cs, h => by
    rw [goF]
    cases hp : decide (p < s.length)
    · exact h
    · have hn := nextF_name (ts := ts) cs (of_decide_eq_true hp) h
      cases decide ((nextF s p ts cs).2.2.2 = 0)
      · exact hn
      · exact goF_name s f _ _ _ hn
theorem scanF_name (s : List UInt8) : ∀ t ∈ (scanF s).1, NameTok t := by
  rw [scanF, allF]
  cases decide ((20000 : Int) < s.length)
  · simp only [cond_false]
    have := goF_name s s.length 0 [] [] (fun t ht => by cases ht)
    cases (!decide ((goF s s.length 0 [] []).2.2.2 = 0))
    · exact this
    · exact fun t ht => by cases ht
  · exact fun t ht => by cases ht
def tok1 (l : List Tok) : Tok := l.getD 0 ⟨0, [], 0⟩
def nameP (s : List UInt8) : Bool := ((decide ((scanF s).2.2 = 0) && decide (((scanF s).1.length : Int) = 1)) && decide ((tok1 (scanF s).1).kind = 1)) && decide ((tok1 (scanF s).1).text = s)
theorem nameP_eq (s : List UInt8) : nameP s = nameB s := by
  cases h : nameB s
  · rw [nameP, Bool.eq_false_iff]
    intro hp
    simp only [Bool.and_eq_true, decide_eq_true_eq] at hp
    obtain ⟨⟨⟨_, h2⟩, h3⟩, h4⟩ := hp
    have hm : tok1 (scanF s).1 ∈ (scanF s).1 := by
      cases hl : (scanF s).1 with
      | nil => rw [hl] at h2; simp at h2
      | cons a l => exact List.mem_cons_self ..
    have := scanF_name s _ hm h3
    rw [h4, h] at this; cases this
  · rw [nameP, name_scan h]
    simp [tok1]
def pb (p : Option Addr) : Nat := match p with | some a => a.block | none => 0
def po (p : Option Addr) : Nat := match p with | some a => a.off | none => 0
/-- A chain of comparisons, as a switch makes it. -/
def anyK : List Int → Int → Bool
  | [], _ => false
  | [a], k => decide (k = a)
  | a :: b :: l, k => decide (k = a) || anyK (b :: l) k
def anyS : List (List UInt8) → List UInt8 → Bool
  | [], _ => false
  | [a], k => decide (k = a)
  | a :: b :: l, k => decide (k = a) || anyS (b :: l) k
theorem anyK_iff : ∀ (l : List Int) (k : Int), anyK l k = true ↔ k ∈ l
  | [], k => by simp [anyK]
  | [a], k => by simp [anyK]
  | a :: b :: l, k => by rw [anyK, Bool.or_eq_true, anyK_iff (b :: l) k, decide_eq_true_eq, List.mem_cons (a := k) (b := a)]
theorem anyS_iff : ∀ (l : List (List UInt8)) (k : List UInt8), anyS l k = true ↔ k ∈ l
  | [], k => by simp [anyS]
  | [a], k => by simp [anyS]
  | a :: b :: l, k => by rw [anyS, Bool.or_eq_true, anyS_iff (b :: l) k, decide_eq_true_eq, List.mem_cons (a := k) (b := a)]
theorem anyK_false {l : List Int} {k : Int} (h : anyK l k = false) : ¬ k ∈ l := fun hm => by rw [(anyK_iff l k).2 hm] at h; cases h
theorem anyS_false {l : List (List UInt8)} {k : List UInt8} (h : anyS l k = false) : ¬ k ∈ l := fun hm => by rw [(anyS_iff l k).2 hm] at h; cases h
theorem tok1_row {w : World} {b o : Nat} {l : List Tok} (h : RowAt w b o (toksCells l)) (hl : 0 < l.length) : RowAt w b o (tokCells (tok1 l)) := by
  cases l with
  | nil => cases hl
  | cons t l =>
    have := h.part 0 3
    exact this
theorem rd_idxq {P : Program} {n : Nat} {σ : List Ent} {c : Prop} {wb : World} {ty : TypeId} {t e z by_ : Nat} {x y : Operand} {p : Option Addr} {m q : Nat} {k : IntKind} {i : Int} (ht : tyElem P t = some (e, z, by_)) (h : Ev n σ c x (.slice p m q)) (h' : Ev n σ c y (.int k i)) (hi : c → 0 ≤ i ∧ i < m) (hp : c → p = some ⟨pb p, po p, none⟩) :
    Rd P n σ c wb (.indexAddr t x y) ty (.pointer (some ⟨pb p, po p + i.toNat * z, none⟩)) := fun d pos after gd a ha hc w1 hg =>
  rd_idx (P := P) (wb := wb) ht (Ev.to h fun hc => congrArg (fun p => Value.slice p m q) (hp hc)) h' hi d pos after gd a ha hc w1 hg
theorem toks_slice {base : Nat} {l : List Tok} {v : Value} {w : World} (h : Toks base l v w) : ∃ a c, v = .slice a l.length c ∧ (0 < l.length → a = some ⟨pb a, po a, none⟩ ∧ RowAt w (pb a) (po a) (tokCells (tok1 l))) := by
  obtain ⟨a, c, rfl, _⟩ := own_sl h
  refine ⟨a, c, rfl, fun h0 => ?_⟩
  obtain ⟨b, c', hv, _, hR, _⟩ := own_pos h h0
  injection hv with hv _ _
  subst hv
  exact ⟨rfl, tok1_row hR h0⟩
end Go.Rk
