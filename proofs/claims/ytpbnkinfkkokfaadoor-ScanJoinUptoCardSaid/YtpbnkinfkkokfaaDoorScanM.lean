/- The reference's scanning of a text. Conditions: none. -/
import Derived.Test.YtpbnkinfkkokfaaDoorScanL
namespace Go.Rk
open Go Go.RowKit
/-- Two fresh rows that stay apart. -/
structure Two (base : Nat) (ts cs : List Tok) (a b : Value) (w : World) : Prop where
  ht : Toks base ts a w
  hc : Toks base cs b w
  n3 : ∀ k, a.ownBlock = some k → b.ownBlock ≠ some k
theorem Two.grow {base : Nat} {ts cs : List Tok} {a b : Value} {w w' : World} (h : Two base ts cs a b w) (g : G w w') : Two base ts cs a b w' := ⟨own_grow h.ht g, own_grow h.hc g, h.n3⟩
theorem Two.putT {base : Nat} {ts cs : List Tok} {a b : Value} {w w1 : World} {ta' : Option Addr} {m tc' : Nat} {t : Tok} {xs : List Value} (h : Two base ts cs a b w) (h1 : w1.ownsRow base ty_api_Token 3 (.slice ta' m tc') m xs) (hg : w.grownBy w1 a.ownBlock)
    (hat : (Value.slice ta' m tc').ownBlock = a.ownBlock ∨ (Value.slice ta' m tc').ownBlock = some w.heap.size) (hm : m = ts.length + 1) (hx : xs = toksCells ts ++ tokCells t) : Two base (ts ++ [t]) cs (.slice ta' m tc') b w1 := by
  subst hm hx
  refine ⟨?_, apart_row h.hc h.n3 hg, apart_append h.hc h.n3 hat⟩
  unfold Toks
  rw [List.length_append, toksCells_snoc]
  exact h1
theorem Two.putC {base : Nat} {ts cs : List Tok} {a b : Value} {w w1 : World} {ta' : Option Addr} {m tc' : Nat} {t : Tok} {xs : List Value} (h : Two base ts cs a b w) (h1 : w1.ownsRow base ty_api_Token 3 (.slice ta' m tc') m xs) (hg : w.grownBy w1 b.ownBlock)
    (hat : (Value.slice ta' m tc').ownBlock = b.ownBlock ∨ (Value.slice ta' m tc').ownBlock = some w.heap.size) (hm : m = cs.length + 1) (hx : xs = toksCells cs ++ tokCells t) : Two base ts (cs ++ [t]) a (.slice ta' m tc') w1 := by
  subst hm hx
  have n3' : ∀ k, b.ownBlock = some k → a.ownBlock ≠ some k := fun k hk he => h.n3 k he hk
  refine ⟨apart_row h.ht n3' hg, ?_, fun k hk he => apart_append h.ht n3' hat k he hk⟩
  unfold Toks
  rw [List.length_append, toksCells_snoc]
  exact h1
theorem Two.below {base : Nat} {ts cs : List Tok} {a b : Value} {w0 w w1 : World} (h : Two base ts cs a b w) (g : Below base w0 w) (hz : base ≤ w.heap.size) (hg : w.grownBy w1 a.ownBlock) : Below base w0 w1 := below_only g hg hz (fun k hk => (h.ht.lt k hk).1)
theorem Two.belowC {base : Nat} {ts cs : List Tok} {a b : Value} {w0 w w1 : World} (h : Two base ts cs a b w) (g : Below base w0 w) (hz : base ≤ w.heap.size) (hg : w.grownBy w1 b.ownBlock) : Below base w0 w1 := below_only g hg hz (fun k hk => (h.hc.lt k hk).1)
theorem nextF_le {s : List UInt8} {p : Nat} (ts cs : List Tok) (h : p < s.length) : (nextF s p ts cs).1 ≤ s.length := by
  have f1 := runN_fit isNotLf h
  have f2 := runN_fit isAlnum h
  have f3 := runN_fit digitB h
  have f4 := opLenR_le (s.drop p)
  rw [List.length_drop] at f4
  unfold nextF
  rw [opLen_R]
  cases decide (cAt s p = 10)
  · cases ((decide (cAt s p = 32) || decide (cAt s p = 9)) || decide (cAt s p = 13))
    · cases preB [47, 47] (s.drop p)
      · cases letterB (cAt s p)
        · cases digitB (cAt s p)
          · cases Nat.beq (opLenR (s.drop p)) 0
            · simp only [cond_true, cond_false]; omega
            · simp only [cond_true, cond_false]; omega
          · cases badD s p (runN digitB (s.drop p))
            · cases decide (valN 0 ((s.drop p).take (runN digitB (s.drop p))) < 9223372036854775808)
              · simp only [cond_true, cond_false]; omega
              · simp only [cond_true, cond_false]; omega
            · simp only [cond_true, cond_false]; omega
        · cases decide ((32 : Int) < runN isAlnum (s.drop p))
          · simp only [cond_true, cond_false]; omega
          · simp only [cond_true, cond_false]; omega
      · simp only [cond_true, cond_false]; omega
    · simp only [cond_true, cond_false]; omega
  · simp only [cond_true, cond_false]; omega
def lastT (ts : List Tok) : Tok := ts.getLast?.getD ⟨0, [], 0⟩
theorem nlTs_eq (p : Nat) (ts : List Tok) : nlTs p ts = bif decide ((0 : Int) < ts.length) && endsT (lastT ts) then ts ++ [⟨4, [59], p⟩] else ts := by
  unfold nlTs lastT
  rcases List.eq_nil_or_concat ts with rfl | ⟨l, x, e⟩
  · rfl
  · have e : ts = l ++ [x] := by simpa using e
    rw [e, decide_eq_true (by simp : (0 : Int) < ((l ++ [x]).length : Nat))]
    simp only [List.getLast?_append, List.getLast?_singleton, Option.some_or, Option.getD_some, Bool.true_and]
    cases h : endsT x <;> simp
theorem last_at {base : Nat} {ts : List Tok} {ta : Option Addr} {tc : Nat} {u : World} (h : Toks base ts (.slice ta ts.length tc) u) : ∃ bt, 0 < ts.length → ta = some ⟨bt, 0, none⟩ ∧ RowAt u bt (0 + ((ts.length : Nat) - 1 : Int).toNat * 3) (tokCells (lastT ts)) := by
  rcases List.eq_nil_or_concat ts with rfl | ⟨l, x, e⟩
  · exact ⟨0, fun h => absurd h (by simp)⟩
  · have e : ts = l ++ [x] := by simpa using e
    subst e
    obtain ⟨bt, ct, ev, _, hrow, _⟩ := own_pos h (by simp)
    injection ev with e1 e2 e3
    refine ⟨bt, fun _ => ⟨e1, ?_⟩⟩
    rw [show lastT (l ++ [x]) = x by simp [lastT]]
    exact row_last hrow
def allR (s : List UInt8) : List Tok × List Tok × Nat × Int := ((allF s).2.1, (allF s).2.2.1, bif !decide ((allF s).2.2.2 = 0) then (allF s).1 else 0, (allF s).2.2.2)
theorem rall_ok (s : List UInt8) (w : World) : Ret PP fn_r02_All #[Str s] w fun v w' => ∃ a b, v = .tuple #[a, b, .int .i64 (allR s).2.2.1, .int .i64 (allR s).2.2.2] ∧ Two w.heap.size (allR s).1 (allR s).2.1 a b w' ∧ G w w' := by
  have g := G.refl w
  refine ret_of_sc (m := 78) func_r02_All rfl rfl [(0, True, _)] (sub_cons rfl (sub_nil _)) ?_
  refine sc_seq fun K1 hK1 => ?_
  refine sc_text [3, 3, 3, 3] ?_
  refine sr_pu rfl (fun _ => rd_assign ev_c) ?_
  refine sr_pu rfl (fun _ => rd_assign ev_c) ?_
  refine sr_pu rfl (fun _ => rd_assign ev_c) ?_
  refine sr_pu rfl (fun _ => rd_assign ev_c) ?_
  refine sr_nil (hK1 _ _ ?_)
  refine sc_seq fun K2 hK2 => ?_
  refine sc_seq fun K3 hK3 => ?_
  refine sc_text [3, 3, 3] ?_
  refine sr_pu rfl (fun _ => rd_move (ev_t rfl)) ?_
  refine sr_pu rfl (fun _ => rd_slen str_string (ev_t rfl)) ?_
  refine sr_pu rfl (fun _ => rd_gt (ev_t rfl) ev_c) ?_
  refine sr_sub [(0, _, _), (2, _, _), (3, _, _), (4, _, _), (5, _, _), (13, _, _)] (sub_cons rfl (sub_cons rfl (sub_cons rfl (sub_cons rfl (sub_cons rfl (sub_cons rfl (sub_nil _))))))) ?_
  refine sr_nil (hK3 _ _ ?_)
  refine sc_cond (ev_t rfl) (fun h1 => ?_) (fun h1 => ?_)
  · have hN : allF s = (0, [], [], 3) := by unfold allF; rw [h1]; rfl
    refine sc_seq fun K4 hK4 => ?_
    refine sc_text [3, 3, 3, 3] ?_
    refine sr_pu rfl (fun _ => rd_assign ev_c) ?_
    refine sr_pu rfl (fun _ => rd_assign ev_c) ?_
    refine sr_pu rfl (fun _ => rd_assign ev_c) ?_
    refine sr_pu rfl (fun _ => rd_assign ev_c) ?_
    refine sr_sub [(0, _, _), (2, _, _), (3, _, _), (4, _, _), (5, _, _)] (sub_cons rfl (sub_cons rfl (sub_cons rfl (sub_cons rfl (sub_cons rfl (sub_nil _)))))) ?_
    refine sr_nil (hK4 _ _ ?_)
    refine sc_ret (t_rets (ts := [2, 3, 4, 5]) (vs := [_, _, _, _]) rfl rfl rfl ?_)
    rw [allR, hN]; exact ⟨_, _, rfl, ⟨own_none _ _ _ _, own_none _ _ _ _, (by intro k h; cases h)⟩, g⟩
  · have hN : allF s = goF s s.length 0 [] [] := by unfold allF; rw [h1]; rfl
    simp only [decide_eq_false_iff_not] at h1
    refine sc_skip (hK2 _ _ ?_)
    refine sc_sub [(0, _, _), (2, _, _), (3, _, _), (4, _, _), (5, _, _)] (sub_cons rfl (sub_cons rfl (sub_cons rfl (sub_cons rfl (sub_cons rfl (sub_nil _)))))) ?_
    refine sc_seq fun K5 hK5 => ?_
    refine sc_text [3, 3] ?_
    refine sr_pu rfl (fun _ => rd_assign ev_c) ?_
    refine sr_pu rfl (fun _ => rd_assign ev_c) ?_
    refine sr_nil (hK5 _ _ ?_)
    refine sc_seq fun K6 hK6 => ?_
    refine sc_text [3] ?_
    refine sr_pu rfl (fun _ => rd_assign ev_c) ?_
    refine sr_nil (hK6 _ _ ?_)
    refine sc_seq fun K7 hK7 => ?_
    refine sc_block ?_
    refine sc_loop (fun (x : Nat × List Tok × List Tok × Nat × (Option Addr × Nat) × (Option Addr × Nat)) u => Two w.heap.size x.2.1 x.2.2.1 (.slice x.2.2.2.2.1.1 x.2.1.length x.2.2.2.2.1.2) (.slice x.2.2.2.2.2.1 x.2.2.1.length x.2.2.2.2.2.2) u ∧ x.2.1.length ≤ x.1 ∧ x.2.2.1.length ≤ x.1 ∧ x.1 ≤ s.length ∧ s.length - x.1 ≤ x.2.2.2.1 ∧ goF s x.2.2.2.1 x.1 x.2.1 x.2.2.1 = goF s s.length 0 [] [] ∧ G w u)
      (fun x => [(0, True, Str s), (6, True, .slice x.2.2.2.2.1.1 x.2.1.length x.2.2.2.2.1.2), (7, True, .slice x.2.2.2.2.2.1 x.2.2.1.length x.2.2.2.2.2.2), (8, True, .int .i64 x.1)]) (fun x => s.length - x.1) (0, [], [], s.length, (none, 0), (none, 0))
      ⟨⟨own_none _ _ _ _, own_none _ _ _ _, (by intro k h; cases h)⟩, Nat.le_refl _, Nat.le_refl _, Nat.zero_le _, Nat.sub_le _ _, rfl, g⟩ (sub_cons rfl (sub_cons rfl (sub_cons rfl (sub_cons rfl (sub_nil _))))) ?_
    rintro ⟨p, ts, cs, f, ⟨ta, tc⟩, ⟨ca, cc⟩⟩ u ⟨hT, k1, k2, k3, hf, he, hw⟩
    replace hT : Two w.heap.size ts cs (.slice ta ts.length tc) (.slice ca cs.length cc) u := hT
    replace k1 : ts.length ≤ p := k1
    replace k2 : cs.length ≤ p := k2
    replace k3 : p ≤ s.length := k3
    replace hf : s.length - p ≤ f := hf
    replace he : goF s f p ts cs = goF s s.length 0 [] [] := he
    have g := G.refl u
    refine sc_seq fun K8 hK8 => ?_
    refine sc_seq fun K9 hK9 => ?_
    refine sc_text [3, 3, 3, 3] ?_
    refine sr_pu rfl (fun _ => rd_move (ev_t rfl)) ?_
    refine sr_pu rfl (fun _ => rd_move (ev_t rfl)) ?_
    refine sr_pu rfl (fun _ => rd_slen str_string (ev_t rfl)) ?_
    refine sr_pu rfl (fun _ => rd_lt (ev_t rfl) (ev_t rfl)) ?_
    refine sr_sub [(0, _, _), (6, _, _), (7, _, _), (8, _, _), (17, _, _)] (sub_cons rfl (sub_cons rfl (sub_cons rfl (sub_cons rfl (sub_cons rfl (sub_nil _)))))) ?_
    refine sr_nil (hK9 _ _ ?_)
    refine sc_cond (ev_t rfl) (fun h2 => ?_) (fun h2 => ?_)
    · replace h2 : p < s.length := by simp only [decide_eq_true_eq] at h2; omega
      obtain ⟨f', rfl⟩ : ∃ f', f = f' + 1 := ⟨f - 1, by omega⟩
      rw [goF, decide_eq_true h2, cond_true] at he
      have hle := nextF_le ts cs h2
      refine sc_skip (hK8 _ _ ?_)
      refine sc_sub [(0, _, _), (6, _, _), (7, _, _), (8, _, _)] (sub_cons rfl (sub_cons rfl (sub_cons rfl (sub_cons rfl (sub_nil _))))) ?_
      refine sc_block ?_
      refine sc_seq fun K10 hK10 => ?_
      refine sc_seq fun K11 hK11 => ?_
      refine sc_text [3, 3, 3] ?_
      refine sr_pu rfl (fun _ => rd_move (ev_t rfl)) ?_
      refine sr_pu rfl (fun _ => rd_move (ev_t rfl)) ?_
      refine sr_pu rfl (fun _ => rd_sidx str_string (ev_t rfl) (ev_t rfl) (fun _ => by show 0 ≤ (p : Int) ∧ (p : Int) < s.length; omega)) ?_
      refine sr_sub [(0, _, _), (6, _, _), (7, _, _), (8, _, _), (20, _, _)] (sub_cons rfl (sub_cons rfl (sub_cons rfl (sub_cons rfl (sub_cons rfl (sub_nil _)))))) ?_
      refine sr_nil (hK11 _ _ ?_)
      refine sc_block ?_
      refine sc_seq fun K12 hK12 => ?_
      refine sc_seq fun K13 hK13 => ?_
      refine sc_text [3, 3] ?_
      refine sr_pu rfl (fun _ => rd_eq (ev_t rfl) ev_c) ?_
      refine sr_pu rfl (fun _ => rd_assign (ev_t rfl)) ?_
      refine sr_sub [(0, _, _), (6, _, _), (7, _, _), (8, _, _), (20, _, _), (21, _, _)] (sub_cons rfl (sub_cons rfl (sub_cons rfl (sub_cons rfl (sub_cons rfl (sub_cons rfl (sub_nil _))))))) ?_
      refine sr_nil (hK13 _ _ ?_)
      refine' sc_or [(0, _, _), (6, _, _), (7, _, _), (8, _, _), (20, _, _)] (sub_cons rfl (sub_cons rfl (sub_cons rfl (sub_cons rfl (sub_cons rfl (sub_cons rfl (sub_nil _))))))) rfl (fun hb3 => ?y3) (hK12 _ _ ?n3)
      case y3 =>
       refine sc_seq fun K14 hK14 => ?_
       refine sc_text [3, 3] ?_
       refine sr_pu rfl (fun _ => rd_eq (ev_t rfl) ev_c) ?_
       refine sr_pu rfl (fun _ => rd_assign (ev_t rfl)) ?_
       refine sr_sub [(0, _, _), (6, _, _), (7, _, _), (8, _, _), (20, _, _), (21, _, _)] (sub_cons rfl (sub_cons rfl (sub_cons rfl (sub_cons rfl (sub_cons rfl (sub_cons rfl (sub_nil _))))))) ?_
       refine sr_nil (hK14 _ _ ?_)
       refine' sc_or [(0, _, _), (6, _, _), (7, _, _), (8, _, _), (20, _, _)] (sub_cons rfl (sub_cons rfl (sub_cons rfl (sub_cons rfl (sub_cons rfl (sub_cons rfl (sub_nil _))))))) rfl (fun hb4 => ?y4) (fun a ha => ⟨ha, rfl⟩)
       case y4 =>
        refine sc_text [3, 3] ?_
        refine sr_pu rfl (fun _ => rd_eq (ev_t rfl) ev_c) ?_
        refine sr_pu rfl (fun _ => rd_assign (ev_t rfl)) ?_
        refine sr_sub [(21, _, _), (0, _, _), (6, _, _), (7, _, _), (8, _, _), (20, _, _)] (sub_cons rfl (sub_cons rfl (sub_cons rfl (sub_cons rfl (sub_cons rfl (sub_cons rfl (sub_nil _))))))) ?_
        exact sr_nil (fun a ha => ⟨ha, rfl⟩)
      case n3 =>
       refine sc_cond (ev_t rfl) (fun h5 => ?_) (fun h5 => ?_)
       · replace h5 : (decide (cAt s p = 32) || (decide (cAt s p = 9) || decide (cAt s p = 13))) = true := h5
         have h10 : decide (cAt s p = 10) = false := by
           simp only [Bool.or_eq_true, decide_eq_true_eq] at h5
           rw [decide_eq_false_iff_not]; omega
         rw [← Bool.or_assoc] at h5
         have hst : nextF s p ts cs = (p + 1, ts, cs, 0) := by unfold nextF; rw [h10, h5]; rfl
         rw [hst] at he hle
         refine sc_seq fun K15 hK15 => ?_
         refine sc_text [3, 3, 3] ?_
         refine sr_pu rfl (fun _ => rd_move (ev_t rfl)) ?_
         refine sr_pu rfl (fun _ => rd_add (ev_t rfl) ev_c (fun _ => by show _ ≤ (p : Int) + 1 ∧ (p : Int) + 1 ≤ _; omega)) ?_
         refine sr_pu rfl (fun _ => rd_assign (ev_t rfl)) ?_
         refine sr_sub [(0, _, _), (6, _, _), (7, _, _), (8, _, _)] (sub_cons rfl (sub_cons rfl (sub_cons rfl (sub_cons rfl (sub_nil _))))) ?_
         refine sr_nil (hK15 _ _ ?_)
         refine sc_sub [(0, _, _), (6, _, _), (7, _, _), (8, _, _)] (sub_cons rfl (sub_cons rfl (sub_cons rfl (sub_cons rfl (sub_nil _))))) ?_
         refine sc_exit rfl (fun a ha => ?_)
         exact ⟨(p + 1, ts, cs, f', (ta, tc), (ca, cc)), ha, ⟨hT.grow g, by show ts.length ≤ p + 1; omega, by show cs.length ≤ p + 1; omega, h2, by show s.length - (p + 1) ≤ f'; omega, he, hw.trans g⟩, by show s.length - (p + 1) < s.length - p; omega⟩
       · replace h5 : (decide (cAt s p = 32) || (decide (cAt s p = 9) || decide (cAt s p = 13))) = false := h5
         rw [← Bool.or_assoc] at h5
         refine sc_seq fun K16 hK16 => ?_
         refine sc_text [3, 3] ?_
         refine sr_pu rfl (fun _ => rd_eq (ev_t rfl) ev_c) ?_
         refine sr_pu rfl (fun _ => rd_assign (ev_t rfl)) ?_
         refine sr_sub [(0, _, _), (6, _, _), (7, _, _), (8, _, _), (27, _, _)] (sub_cons rfl (sub_cons rfl (sub_cons rfl (sub_cons rfl (sub_cons rfl (sub_nil _)))))) ?_
         refine sr_nil (hK16 _ _ ?_)
         refine sc_cond (ev_t rfl) (fun h6 => ?_) (fun h6 => ?_)
         · replace h6 : decide (cAt s p = 10) = true := h6
           have hst : nextF s p ts cs = (p + 1, nlTs p ts, cs, 0) := by unfold nextF; rw [h6]; rfl
           rw [nlTs_eq] at hst
           obtain ⟨bt, hbt⟩ := last_at hT.ht
           refine sc_seq fun K17 hK17 => ?_
           refine sc_seq fun K18 hK18 => ?_
           refine sc_text [3, 3, 3, 3, 3, 3, 3, 3, 3, 0, 1, 3] ?_
           refine sr_pu rfl (fun _ => rd_move (ev_t rfl)) ?_
           refine sr_pu rfl (fun _ => rd_len el_sl_api_Token (ev_t rfl)) ?_
           refine sr_pu rfl (fun _ => rd_gt (ev_t rfl) ev_c) ?_
           refine sr_pu rfl (fun _ => rd_move (ev_t rfl)) ?_
           refine sr_pug rfl rfl rfl (fun _ => rd_move (ev_t rfl)) ?_
           refine sr_pug rfl rfl rfl (fun _ => rd_move (ev_t rfl)) ?_
           refine sr_pug rfl rfl rfl (fun _ => rd_len el_sl_api_Token (ev_u rfl id)) ?_
           refine sr_pug rfl rfl rfl (fun _ => rd_sub (ev_u rfl id) ev_c (fun hc => by show _ ≤ (ts.length : Int) - 1 ∧ (ts.length : Int) - 1 ≤ _; omega)) ?_
           refine sr_pug rfl rfl rfl (fun _ => rd_idx el_sl_api_Token (Ev.to (v' := .slice (some ⟨bt, 0, none⟩) ts.length tc) (ev_u rfl id) (fun hc => by rw [(hbt (by have : (0 : Int) < ts.length := of_decide_eq_true hc.2; omega)).1])) (ev_u rfl id) (fun hc => by have : (0 : Int) < ts.length := of_decide_eq_true hc.2; show 0 ≤ (ts.length : Int) - 1 ∧ (ts.length : Int) - 1 < ts.length; omega)) ?_
           refine sr_rdg rfl rfl rfl (rd_loads agg_api_Token (ev_u rfl id) rfl (fun hc => ((hbt (by have : (0 : Int) < ts.length := of_decide_eq_true hc.2; omega)).2).grow g)) ?_
           refine sr_pureg rfl rfl rfl (fun _ => (rc_call go_r02_ends ev_f (args_cons (ev_u rfl id) (args_nil)) rfl)) (fun hc => ends_ok (lastT ts) _) (fun w39 g39 => ?_)
           have g := g.trans (g39)
           refine sr_pu rfl (fun _ => rd_pick_and (ev_t rfl) (ev_u rfl id)) ?_
           refine sr_sub [(0, _, _), (6, _, _), (7, _, _), (8, _, _), (40, _, _)] (sub_cons rfl (sub_cons rfl (sub_cons rfl (sub_cons rfl (sub_cons rfl (sub_nil _)))))) ?_
           refine sr_nil (hK18 _ _ ?_)
           refine sc_cond (ev_t rfl) (fun h7 => ?_) (fun h7 => ?_)
           · rw [show (decide ((0 : Int) < ts.length) && endsT (lastT ts)) = true from h7, cond_true] at hst
             rw [hst] at he hle
             have hlm : (ts ++ [(⟨4, [59], p⟩ : Tok)]).length = ts.length + 1 := by simp
             refine sc_text [3, 3, 3, 1, 2, 3] ?_
             refine sr_pu rfl (fun _ => rd_move (ev_t rfl)) ?_
             refine sr_pu rfl (fun _ => rd_move (ev_t rfl)) ?_
             refine sr_pu rfl (fun _ => rd_build [_, _, _] ze_api_Token rfl pl_api_Token (parts_cons ev_c (parts_cons ev_c (parts_cons (ev_t rfl) (parts_nil)))) rfl) ?_
             refine sr_buildSlice [_, _, _] rfl el_sl_api_Token ze_api_Token (parts_cons (ev_t rfl) (parts_nil)) rfl rfl ?_
             intro b44 w44 N44
             have l44 := N44.ge g
             have g := g.trans (N44.g)
             have B44 := N44.blk
             have hw := hw.trans g
             have hT := hT.grow g
             have hz0 := hw.size
             refine sr_append rfl el_sl_api_Token ze_api_Token rfl (by decide) (ev_t rfl) hT.ht (ev_t rfl) rfl N44.blk.row rfl (by simp only [maxLen]; omega) (by omega) (by omega) ?_
             intro ta' tc' w45 ht' hg45 hat
             have hw : G w w45 := hT.below hw hw.size hg45
             have hT := hT.putT (t := ⟨4, [59], p⟩) ht' hg45 hat rfl rfl
             rw [← hlm]
             rw [← hlm] at hT
             have g := G.refl w45
             refine sr_pu rfl (fun _ => rd_assign (ev_t rfl)) ?_
             refine sr_sub [(0, _, _), (6, _, _), (7, _, _), (8, _, _)] (sub_cons rfl (sub_cons rfl (sub_cons rfl (sub_cons rfl (sub_nil _))))) ?_
             refine sr_nil (hK17 _ _ ?_)
             refine sc_seq fun K19 hK19 => ?_
             refine sc_text [3, 3, 3] ?_
             refine sr_pu rfl (fun _ => rd_move (ev_t rfl)) ?_
             refine sr_pu rfl (fun _ => rd_add (ev_t rfl) ev_c (fun _ => by show _ ≤ (p : Int) + 1 ∧ (p : Int) + 1 ≤ _; omega)) ?_
             refine sr_pu rfl (fun _ => rd_assign (ev_t rfl)) ?_
             refine sr_sub [(0, _, _), (6, _, _), (7, _, _), (8, _, _)] (sub_cons rfl (sub_cons rfl (sub_cons rfl (sub_cons rfl (sub_nil _))))) ?_
             refine sr_nil (hK19 _ _ ?_)
             refine sc_sub [(0, _, _), (6, _, _), (7, _, _), (8, _, _)] (sub_cons rfl (sub_cons rfl (sub_cons rfl (sub_cons rfl (sub_nil _))))) ?_
             refine sc_exit rfl (fun a ha => ?_)
             exact ⟨(p + 1, _, cs, f', (ta', tc'), (ca, cc)), ha, ⟨hT.grow g, by show (ts ++ [(⟨4, [59], p⟩ : Tok)]).length ≤ p + 1; omega, by show cs.length ≤ p + 1; omega, h2, by show s.length - (p + 1) ≤ f'; omega, he, hw.trans g⟩, by show s.length - (p + 1) < s.length - p; omega⟩
           · rw [show (decide ((0 : Int) < ts.length) && endsT (lastT ts)) = false from h7, cond_false] at hst
             rw [hst] at he hle
             refine sc_skip (hK17 _ _ ?_)
             refine sc_sub [(0, _, _), (6, _, _), (7, _, _), (8, _, _)] (sub_cons rfl (sub_cons rfl (sub_cons rfl (sub_cons rfl (sub_nil _))))) ?_
             refine sc_seq fun K20 hK20 => ?_
             refine sc_text [3, 3, 3] ?_
             refine sr_pu rfl (fun _ => rd_move (ev_t rfl)) ?_
             refine sr_pu rfl (fun _ => rd_add (ev_t rfl) ev_c (fun _ => by show _ ≤ (p : Int) + 1 ∧ (p : Int) + 1 ≤ _; omega)) ?_
             refine sr_pu rfl (fun _ => rd_assign (ev_t rfl)) ?_
             refine sr_sub [(0, _, _), (6, _, _), (7, _, _), (8, _, _)] (sub_cons rfl (sub_cons rfl (sub_cons rfl (sub_cons rfl (sub_nil _))))) ?_
             refine sr_nil (hK20 _ _ ?_)
             refine sc_sub [(0, _, _), (6, _, _), (7, _, _), (8, _, _)] (sub_cons rfl (sub_cons rfl (sub_cons rfl (sub_cons rfl (sub_nil _))))) ?_
             refine sc_exit rfl (fun a ha => ?_)
             exact ⟨(p + 1, ts, cs, f', (ta, tc), (ca, cc)), ha, ⟨hT.grow g, by show ts.length ≤ p + 1; omega, by show cs.length ≤ p + 1; omega, h2, by show s.length - (p + 1) ≤ f'; omega, he, hw.trans g⟩, by show s.length - (p + 1) < s.length - p; omega⟩
         · replace h6 : decide (cAt s p = 10) = false := h6
           have hst := nextF_tok ts cs h2 (by rw [h6, h5]; rfl)
           refine sc_skip (hK10 _ _ ?_)
           refine sc_sub [(0, _, _), (6, _, _), (7, _, _), (8, _, _)] (sub_cons rfl (sub_cons rfl (sub_cons rfl (sub_cons rfl (sub_nil _))))) ?_
           refine sc_seq fun K21 hK21 => ?_
           refine sc_text [3, 3, 1, 3, 3, 3, 1, 2, 3] ?_
           refine sr_pu rfl (fun _ => rd_move (ev_t rfl)) ?_
           refine sr_pu rfl (fun _ => rd_move (ev_t rfl)) ?_
           refine sr_pure rfl (rc_call go_r02_next ev_f (args_cons (ev_t rfl) (args_cons (ev_t rfl) (args_nil))) rfl) (rnext_ok s p h2 (by omega) _) (fun w51 g51 => ?_)
           have g := g.trans (g51)
           refine sr_pu rfl (fun _ => rd_move (ev_t rfl)) ?_
           refine sr_pu rfl (fun _ => rd_extract (ev_t rfl) rfl) ?_
           refine sr_pu rfl (fun _ => rd_extract (ev_t rfl) rfl) ?_
           refine sr_alloc rfl ze_api_Token rfl ?_
           intro b9 w9 N9
           have l9 := N9.ge g
           have g := g.trans (N9.g)
           have B9 := N9.blk
           refine sr_store rfl sz_api_Token (ev_t rfl) (ev_t rfl) rfl rfl B9 rfl rfl ?_
           intro wS1 hgS1 hzS1 B9
           have g := g_only g hgS1 (by intro k hk; injection hk with hk; omega)
           refine sr_pu rfl (fun _ => rd_assign (ev_t rfl)) ?_
           refine sr_nil (hK21 _ _ ?_)
           refine sc_sub [(0, _, _), (6, _, _), (7, _, _), (8, _, _), (9, _, _), (10, _, _), (48, _, _), (49, _, _), (50, _, _), (51, _, _), (52, _, _), (53, _, _)] (sub_cons rfl (sub_cons rfl (sub_cons rfl (sub_cons rfl (sub_cons rfl (sub_cons rfl (sub_cons rfl (sub_cons rfl (sub_cons rfl (sub_cons rfl (sub_cons rfl (sub_cons rfl (sub_nil _))))))))))))) ?_
           refine sc_seq fun K22 hK22 => ?_
           refine sc_seq fun K23 hK23 => ?_
           refine sc_text [3, 3] ?_
           refine sr_pu rfl (fun _ => rd_move (ev_t rfl)) ?_
           refine sr_pu rfl (fun _ => rd_ne (ev_t rfl) ev_c) ?_
           refine sr_nil (hK23 _ _ ?_)
           refine sc_cond (ev_t rfl) (fun h8 => ?_) (fun h8 => ?_)
           · rw [show (!decide ((nextR s p).2 = 0)) = true from h8, cond_true] at hst
             have h0 : ¬ (nextR s p).2 = 0 := by simpa using h8
             rw [hst] at he
             replace he : (bif decide ((nextR s p).2 = 0) then goF s f' p ts cs else (p, ts, cs, (nextR s p).2)) = goF s s.length 0 [] [] := he
             rw [decide_eq_false h0, cond_false] at he
             have hA : allR s = (ts, cs, p, (nextR s p).2) := by rw [allR, hN, ← he]; simp only; rw [decide_eq_false h0]; rfl
             refine sc_seq fun K24 hK24 => ?_
             refine sc_text [3, 3, 3, 3, 3, 3, 3, 3] ?_
             refine sr_pu rfl (fun _ => rd_move (ev_t rfl)) ?_
             refine sr_pu rfl (fun _ => rd_move (ev_t rfl)) ?_
             refine sr_pu rfl (fun _ => rd_move (ev_t rfl)) ?_
             refine sr_pu rfl (fun _ => rd_move (ev_t rfl)) ?_
             refine sr_pu rfl (fun _ => rd_assign (ev_t rfl)) ?_
             refine sr_pu rfl (fun _ => rd_assign (ev_t rfl)) ?_
             refine sr_pu rfl (fun _ => rd_assign (ev_t rfl)) ?_
             refine sr_pu rfl (fun _ => rd_assign (ev_t rfl)) ?_
             refine sr_nil (hK24 _ _ ?_)
             refine sc_sub [(0, _, _), (2, _, _), (3, _, _), (4, _, _), (5, _, _), (6, _, _), (7, _, _), (8, _, _), (9, _, _), (10, _, _), (48, _, _), (49, _, _), (50, _, _), (51, _, _), (52, _, _), (53, _, _), (54, _, _), (55, _, _), (56, _, _), (57, _, _), (58, _, _), (59, _, _)] (sub_cons rfl (sub_cons rfl (sub_cons rfl (sub_cons rfl (sub_cons rfl (sub_cons rfl (sub_cons rfl (sub_cons rfl (sub_cons rfl (sub_cons rfl (sub_cons rfl (sub_cons rfl (sub_cons rfl (sub_cons rfl (sub_cons rfl (sub_cons rfl (sub_cons rfl (sub_cons rfl (sub_cons rfl (sub_cons rfl (sub_cons rfl (sub_cons rfl (sub_nil _))))))))))))))))))))))) ?_
             refine sc_ret (t_rets (ts := [2, 3, 4, 5]) (vs := [_, _, _, _]) rfl rfl rfl ?_)
             rw [hA]; exact ⟨_, _, rfl, hT.grow g, hw.trans g⟩
           · rw [show (!decide ((nextR s p).2 = 0)) = false from h8, cond_false] at hst
             refine sc_skip (hK22 _ _ ?_)
             refine sc_seq fun K25 hK25 => ?_
             refine sc_seq fun K26 hK26 => ?_
             refine sc_text [3, 0, 3] ?_
             refine sr_pu rfl (fun _ => rd_field fo_api_Token_0 (ev_t rfl)) ?_
             refine sr_rd rfl (rd_load one_int (ev_t rfl) (fun _ => by first | assumption | exact B9.at_ rfl | exact B9.row)) ?_
             refine sr_pu rfl (fun _ => rd_eq (ev_t rfl) ev_c) ?_
             refine sr_nil (hK26 _ _ ?_)
             refine sc_cond (ev_t rfl) (fun h9 => ?_) (fun h9 => ?_)
             · rw [show decide ((nextR s p).1.kind = 5) = true from h9, cond_true] at hst
               have hlt := nextF_lt (ts := ts) (cs := cs) h2 (by rw [hst])
               rw [hst] at he hle hlt
               replace hle : p + (nextR s p).1.text.length ≤ s.length := hle
               replace hlt : p < p + (nextR s p).1.text.length := hlt
               have hlm : (cs ++ [(nextR s p).1]).length = cs.length + 1 := by simp
               refine sc_text [3, 0, 1, 2, 3] ?_
               refine sr_pu rfl (fun _ => rd_move (ev_t rfl)) ?_
               refine sr_rd rfl (rd_loads agg_api_Token (ev_t rfl) rfl (fun _ => by first | assumption | exact B9.at_ rfl | exact B9.row)) ?_
               refine sr_buildSlice [_, _, _] rfl el_sl_api_Token ze_api_Token (parts_cons (ev_t rfl) (parts_nil)) rfl rfl ?_
               intro b65 w65 N65
               have x65_9 := N65.ne B9
               have l65 := N65.ge g
               have g := g.trans (N65.g)
               have B9 := B9.grow (N65.g)
               have B65 := N65.blk
               have q9 : (Value.slice ca cs.length cc).ownBlock ≠ some b9 := own_ne hT.hc l9
               have hw := hw.trans g
               have hT := hT.grow g
               have hz0 := hw.size
               refine sr_append rfl el_sl_api_Token ze_api_Token rfl (by decide) (ev_t rfl) hT.hc (ev_t rfl) rfl N65.blk.row rfl (by simp only [maxLen]; omega) (by omega) (by omega) ?_
               intro ta' tc' w66 ht' hg66 hat
               have hw : G w w66 := hT.belowC hw hw.size hg66
               have B9 := B9.keep hg66 (Ne.symm q9)
               have hT := hT.putC (t := (nextR s p).1) ht' hg66 hat rfl rfl
               rw [← hlm]
               rw [← hlm] at hT
               have g := G.refl w66
               refine sr_pu rfl (fun _ => rd_assign (ev_t rfl)) ?_
               refine sr_nil (hK25 _ _ ?_)
               refine sc_text [3, 3, 0, 3, 3, 3] ?_
               refine sr_pu rfl (fun _ => rd_move (ev_t rfl)) ?_
               refine sr_pu rfl (fun _ => rd_field fo_api_Token_1 (ev_t rfl)) ?_
               refine sr_rd rfl (rd_load one_string (ev_t rfl) (fun _ => by first | assumption | exact B9.at_ rfl | exact B9.row | exact B65.at_ rfl | exact B65.row)) ?_
               refine sr_pu rfl (fun _ => rd_slen str_string (ev_t rfl)) ?_
               refine sr_pu rfl (fun _ => rd_add (ev_t rfl) (ev_t rfl) (fun _ => by show _ ≤ (p : Int) + ((nextR s p).1.text.length : Nat) ∧ (p : Int) + ((nextR s p).1.text.length : Nat) ≤ _; omega)) ?_
               refine sr_pu rfl (fun _ => rd_assign (ev_t rfl)) ?_
               refine sr_sub [(0, _, _), (6, _, _), (7, _, _), (8, _, _)] (sub_cons rfl (sub_cons rfl (sub_cons rfl (sub_cons rfl (sub_nil _))))) ?_
               refine sr_nil (fun a ha => ?_)
               exact ⟨(p + (nextR s p).1.text.length, ts, _, f', (ta, tc), (ta', tc')), ha, ⟨hT.grow g, by show ts.length ≤ p + (nextR s p).1.text.length; omega, by show (cs ++ [(nextR s p).1]).length ≤ p + (nextR s p).1.text.length; omega, hle, by show s.length - (p + (nextR s p).1.text.length) ≤ f'; omega, he, hw.trans g⟩, by show s.length - (p + (nextR s p).1.text.length) < s.length - p; omega⟩
             · rw [show decide ((nextR s p).1.kind = 5) = false from h9, cond_false] at hst
               have hlt := nextF_lt (ts := ts) (cs := cs) h2 (by rw [hst])
               rw [hst] at he hle hlt
               replace hle : p + (nextR s p).1.text.length ≤ s.length := hle
               replace hlt : p < p + (nextR s p).1.text.length := hlt
               have hlm : (ts ++ [(nextR s p).1]).length = ts.length + 1 := by simp
               refine sc_text [3, 0, 1, 2, 3] ?_
               refine sr_pu rfl (fun _ => rd_move (ev_t rfl)) ?_
               refine sr_rd rfl (rd_loads agg_api_Token (ev_t rfl) rfl (fun _ => by first | assumption | exact B9.at_ rfl | exact B9.row)) ?_
               refine sr_buildSlice [_, _, _] rfl el_sl_api_Token ze_api_Token (parts_cons (ev_t rfl) (parts_nil)) rfl rfl ?_
               intro b69 w69 N69
               have x69_9 := N69.ne B9
               have l69 := N69.ge g
               have g := g.trans (N69.g)
               have B9 := B9.grow (N69.g)
               have B69 := N69.blk
               have q9 : (Value.slice ta ts.length tc).ownBlock ≠ some b9 := own_ne hT.ht l9
               have hw := hw.trans g
               have hT := hT.grow g
               have hz0 := hw.size
               refine sr_append rfl el_sl_api_Token ze_api_Token rfl (by decide) (ev_t rfl) hT.ht (ev_t rfl) rfl N69.blk.row rfl (by simp only [maxLen]; omega) (by omega) (by omega) ?_
               intro ta' tc' w70 ht' hg70 hat
               have hw : G w w70 := hT.below hw hw.size hg70
               have B9 := B9.keep hg70 (Ne.symm q9)
               have hT := hT.putT (t := (nextR s p).1) ht' hg70 hat rfl rfl
               rw [← hlm]
               rw [← hlm] at hT
               have g := G.refl w70
               refine sr_pu rfl (fun _ => rd_assign (ev_t rfl)) ?_
               refine sr_nil (hK25 _ _ ?_)
               refine sc_text [3, 3, 0, 3, 3, 3] ?_
               refine sr_pu rfl (fun _ => rd_move (ev_t rfl)) ?_
               refine sr_pu rfl (fun _ => rd_field fo_api_Token_1 (ev_t rfl)) ?_
               refine sr_rd rfl (rd_load one_string (ev_t rfl) (fun _ => by first | assumption | exact B9.at_ rfl | exact B9.row | exact B69.at_ rfl | exact B69.row)) ?_
               refine sr_pu rfl (fun _ => rd_slen str_string (ev_t rfl)) ?_
               refine sr_pu rfl (fun _ => rd_add (ev_t rfl) (ev_t rfl) (fun _ => by show _ ≤ (p : Int) + ((nextR s p).1.text.length : Nat) ∧ (p : Int) + ((nextR s p).1.text.length : Nat) ≤ _; omega)) ?_
               refine sr_pu rfl (fun _ => rd_assign (ev_t rfl)) ?_
               refine sr_sub [(0, _, _), (6, _, _), (7, _, _), (8, _, _)] (sub_cons rfl (sub_cons rfl (sub_cons rfl (sub_cons rfl (sub_nil _))))) ?_
               refine sr_nil (fun a ha => ?_)
               exact ⟨(p + (nextR s p).1.text.length, _, cs, f', (ta', tc'), (ca, cc)), ha, ⟨hT.grow g, by show (ts ++ [(nextR s p).1]).length ≤ p + (nextR s p).1.text.length; omega, by show cs.length ≤ p + (nextR s p).1.text.length; omega, hle, by show s.length - (p + (nextR s p).1.text.length) ≤ f'; omega, he, hw.trans g⟩, by show s.length - (p + (nextR s p).1.text.length) < s.length - p; omega⟩
    · have hp : p = s.length := by simp only [decide_eq_false_iff_not] at h2; omega
      have he : (p, ts, cs, (0 : Int)) = goF s s.length 0 [] [] := by
        rw [← he]
        cases f with
        | zero => rfl
        | succ f' => rw [goF, decide_eq_false (by omega : ¬ p < s.length)]; rfl
      have hA : allR s = (ts, cs, 0, 0) := by rw [allR, hN, ← he]; rfl
      refine sc_exit rfl (hK7 _ _ ?_)
      refine sc_sub [(6, _, _), (7, _, _)] (sub_cons rfl (sub_cons rfl (sub_nil _))) ?_
      refine sc_seq fun K27 hK27 => ?_
      refine sc_text [3, 3, 3, 3, 3, 3] ?_
      refine sr_pu rfl (fun _ => rd_move (ev_t rfl)) ?_
      refine sr_pu rfl (fun _ => rd_move (ev_t rfl)) ?_
      refine sr_pu rfl (fun _ => rd_assign (ev_t rfl)) ?_
      refine sr_pu rfl (fun _ => rd_assign (ev_t rfl)) ?_
      refine sr_pu rfl (fun _ => rd_assign ev_c) ?_
      refine sr_pu rfl (fun _ => rd_assign ev_c) ?_
      refine sr_nil (hK27 _ _ ?_)
      refine sc_sub [(2, _, _), (3, _, _), (4, _, _), (5, _, _), (6, _, _), (7, _, _), (76, _, _), (77, _, _)] (sub_cons rfl (sub_cons rfl (sub_cons rfl (sub_cons rfl (sub_cons rfl (sub_cons rfl (sub_cons rfl (sub_cons rfl (sub_nil _))))))))) ?_
      refine sc_ret (t_rets (ts := [2, 3, 4, 5]) (vs := [_, _, _, _]) rfl rfl rfl ?_)
      rw [hA]; exact ⟨_, _, rfl, hT.grow g, hw.trans g⟩
end Go.Rk
