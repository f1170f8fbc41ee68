/- The law about blanked comments. Conditions: what start-up laid. -/
import Derived.Test.YtpbnkinfkkokfaaDoorScanWc
import Derived.Test.YtpbnkinfkkokfaaDoorByt
namespace Go.Rk
open Go Go.RowKit
theorem cAt_set {l : List UInt8} {j i : Nat} (hj : j < l.length) : cAt (l.set j 32) i = if i = j then 32 else cAt l i := by
  unfold cAt
  simp only [List.getD_eq_getElem?_getD, List.getElem?_set]
  by_cases e : i = j
  · subst e; simp [hj]
  · rw [if_neg (fun h => e h.symm), if_neg e]
theorem inCom_app {a b : List Tok} {i : Nat} : inCom (a ++ b) i ↔ inCom a i ∨ inCom b i := by
  constructor
  · rintro ⟨t, ht, h⟩
    rcases List.mem_append.mp ht with ht | ht
    · exact .inl ⟨t, ht, h⟩
    · exact .inr ⟨t, ht, h⟩
  · rintro (⟨t, ht, h⟩ | ⟨t, ht, h⟩)
    · exact ⟨t, List.mem_append_left _ ht, h⟩
    · exact ⟨t, List.mem_append_right _ ht, h⟩
theorem inCom_one {t : Tok} {i : Nat} : inCom [t] i ↔ (t.pos ≤ (i : Int) ∧ (i : Int) < t.pos + t.text.length) := by
  constructor
  · rintro ⟨u, hu, h⟩; have : u = t := by simpa using hu
    subst this; exact h
  · intro h; exact ⟨t, by simp, h⟩
theorem blanked_nil (s : List UInt8) : Blanked s s [] := ⟨rfl, fun i _ ⟨t, ht, _⟩ => by (cases ht), fun i _ _ => rfl⟩
theorem blanked_congr {s l : List UInt8} {a b : List Tok} (h : Blanked s l a) (he : ∀ i, inCom a i ↔ inCom b i) : Blanked s l b := ⟨h.len, fun i h1 h2 => h.inn i h1 ((he i).mpr h2), fun i h1 h2 => h.out i h1 (fun hh => h2 ((he i).mp hh))⟩
def partT (t : Tok) (k : Nat) : Tok := ⟨t.kind, t.text.take k, t.pos⟩
theorem blanked_0 {s l : List UInt8} {a : List Tok} (t : Tok) (h : Blanked s l a) : Blanked s l (a ++ [partT t 0]) := blanked_congr h fun i => by
  rw [inCom_app, inCom_one]
  simp only [partT, List.take_zero, List.length_nil]
  constructor
  · exact .inl
  · rintro (h | h)
    · exact h
    · omega
theorem blanked_end {s l : List UInt8} {a : List Tok} {t : Tok} (h : Blanked s l (a ++ [partT t t.text.length])) : Blanked s l (a ++ [t]) := by
  unfold partT at h; rw [List.take_length] at h; exact h
theorem blanked_step {s l : List UInt8} {a : List Tok} {t : Tok} {q k : Nat} (h : Blanked s l (a ++ [partT t k])) (hq : t.pos = (q : Int)) (hk : k < t.text.length) (hf : q + t.text.length ≤ s.length) : Blanked s (l.set (q + k) 32) (a ++ [partT t (k + 1)]) := by
  have hlt : q + k < l.length := by rw [h.len]; omega
  have len1 : (t.text.take k).length = k := by rw [List.length_take]; omega
  have len2 : (t.text.take (k + 1)).length = k + 1 := by rw [List.length_take]; omega
  have he : ∀ i, inCom (a ++ [partT t (k + 1)]) i ↔ (inCom (a ++ [partT t k]) i ∨ i = q + k) := by
    intro i
    rw [inCom_app, inCom_app, inCom_one, inCom_one]
    simp only [partT, len1, len2, hq]
    constructor
    · rintro (h | h)
      · exact .inl (.inl h)
      · by_cases e : i = q + k
        · exact .inr e
        · exact .inl (.inr (by omega))
    · rintro ((h | h) | h)
      · exact .inl h
      · exact .inr (by omega)
      · exact .inr (by omega)
  refine ⟨by rw [List.length_set]; exact h.len, fun i h1 h2 => ?_, fun i h1 h2 => ?_⟩
  · rw [cAt_set hlt]
    split
    · rfl
    · rename_i e
      rcases (he i).mp h2 with h3 | h3
      · exact h.inn i h1 h3
      · exact absurd h3 e
  · rw [cAt_set hlt]
    rw [if_neg (fun e => h2 ((he i).mpr (.inr e)))]
    exact h.out i h1 (fun h3 => h2 ((he i).mpr (.inl h3)))
theorem without_law (s : List UInt8) (w : World) (hL : Laid w) (hb3 : 3 ≤ w.heap.size) : Ret PP fn_l02_ScanWithoutComments #[Str s] w fun v w' => v = .bool true ∧ G w w' := by
  have g := G.refl w
  refine ret_of_sc (m := 91) func_l02_ScanWithoutComments rfl rfl [(0, True, _)] (sub_cons rfl (sub_nil _)) ?_
  refine sc_seq fun K1 hK1 => ?_
  refine sc_text [3] ?_
  refine sr_pu rfl (fun _ => rd_assign ev_c) ?_
  refine sr_nil (hK1 _ _ ?_)
  refine sc_seq fun K2 hK2 => ?_
  refine sc_seq fun K3 hK3 => ?_
  refine sc_text [1, 3] ?_
  refine sr_pure rfl (rc_call go_l02_awake ev_f (args_nil) rfl) (awake_ok _ (hL.grow g) (by have := g.size; omega)) (fun w13 g13 => ?_)
  have g := g.trans (g13)
  refine sr_pu rfl (fun _ => rd_not (ev_t rfl)) ?_
  refine sr_sub [(0, _, _), (2, _, _), (14, _, _)] (sub_cons rfl (sub_cons rfl (sub_cons rfl (sub_nil _)))) ?_
  refine sr_nil (hK3 _ _ ?_)
  refine sc_false (ev_t rfl) ?_
  refine sc_skip (hK2 _ _ ?_)
  refine sc_sub [(0, _, _), (2, _, _)] (sub_cons rfl (sub_cons rfl (sub_nil _))) ?_
  refine sc_seq fun K4 hK4 => ?_
  refine sc_seq fun K5 hK5 => ?_
  refine sc_text [3, 3, 3] ?_
  refine sr_pu rfl (fun _ => rd_move (ev_t rfl)) ?_
  refine sr_pu rfl (fun _ => rd_slen str_string (ev_t rfl)) ?_
  refine sr_pu rfl (fun _ => rd_gt (ev_t rfl) ev_c) ?_
  refine sr_sub [(0, _, _), (2, _, _), (17, _, _)] (sub_cons rfl (sub_cons rfl (sub_cons rfl (sub_nil _)))) ?_
  refine sr_nil (hK5 _ _ ?_)
  refine sc_cond (ev_t rfl) (fun h2 => ?_) (fun h2 => ?_)
  · (try simp only [bsimp] at h2)
    refine sc_seq fun K6 hK6 => ?_
    refine sc_text [3] ?_
    refine sr_pu rfl (fun _ => rd_assign ev_c) ?_
    refine sr_sub [(0, _, _), (2, _, _)] (sub_cons rfl (sub_cons rfl (sub_nil _))) ?_
    refine sr_nil (hK6 _ _ ?_)
    refine sc_ret (t_ret1 rfl rfl ?_)
    exact ⟨rfl, g⟩
  · have hs : s.length ≤ 600 := by simp only [decide_eq_false_iff_not] at h2; omega
    refine sc_skip (hK4 _ _ ?_)
    refine sc_sub [(0, _, _), (2, _, _)] (sub_cons rfl (sub_cons rfl (sub_nil _))) ?_
    refine sc_seq fun K7 hK7 => ?_
    refine sc_text [3, 1, 3, 3, 3, 3, 3, 3, 3] ?_
    refine sr_pu rfl (fun _ => rd_move (ev_t rfl)) ?_
    refine sr_call rfl (rc_call go_scan_Scan ev_f (args_cons (ev_t rfl) (args_nil)) rfl) (scan_ok s _ (hL.grow g) (by have := g.size; omega)) ?_
    rintro v20 w20 ⟨l1, rfl, hT1, g20⟩
    refine ⟨fun _ => g20, ?_⟩
    have g := g.trans g20
    have hT1 : w20.ownsRow _ ty_api_Token 3 l1 (scanF s).1.length (toksCells (scanF s).1) := hT1
    have hlen := scanF_len s (by omega)
    refine sr_pu rfl (fun _ => rd_move (ev_t rfl)) ?_
    refine sr_pu rfl (fun _ => rd_extract (ev_t rfl) rfl) ?_
    refine sr_pu rfl (fun _ => rd_extract (ev_t rfl) rfl) ?_
    refine sr_pu rfl (fun _ => rd_extract (ev_t rfl) rfl) ?_
    refine sr_pu rfl (fun _ => rd_assign (ev_t rfl)) ?_
    refine sr_pu rfl (fun _ => rd_assign (ev_t rfl)) ?_
    refine sr_pu rfl (fun _ => rd_assign (ev_t rfl)) ?_
    refine sr_sub [(0, _, _), (2, _, _), (3, _, _), (4, _, _), (5, _, _)] (sub_cons rfl (sub_cons rfl (sub_cons rfl (sub_cons rfl (sub_cons rfl (sub_nil _)))))) ?_
    refine sr_nil (hK7 _ _ ?_)
    refine sc_seq fun K8 hK8 => ?_
    refine sc_text [3, 1, 3] ?_
    refine sr_pu rfl (fun _ => rd_move (ev_t rfl)) ?_
    refine sr_tobytes rfl str_string el_sl_uint8 ik_uint8 (ev_t rfl) ?_
    intro bb w25 qq hbb hY g25
    have n1 : l1.ownBlock ≠ some bb := by rw [hbb]; exact own_ne hT1 (Nat.le_refl _)
    have zb : w.heap.size ≤ bb := by have := g.size; omega
    have g := g.trans g25
    have hT1 := own_grow hT1 g25
    have hlb := hY.lt
    refine sr_pu rfl (fun _ => rd_assign (ev_t rfl)) ?_
    refine sr_sub [(0, _, _), (2, _, _), (3, _, _), (4, _, _), (5, _, _), (6, _, _)] (sub_cons rfl (sub_cons rfl (sub_cons rfl (sub_cons rfl (sub_cons rfl (sub_cons rfl (sub_nil _))))))) ?_
    refine sr_nil (hK8 _ _ ?_)
    refine sc_seq fun K9 hK9 => ?_
    refine sc_text [3, 1, 3] ?_
    refine sr_pu rfl (fun _ => rd_move (ev_t rfl)) ?_
    refine sr_call rfl (rc_call go_scan_Comments ev_f (args_cons (ev_t rfl) (args_nil)) rfl) (comments_ok s _ (hL.grow g) (by have := g.size; omega)) ?_
    rintro v27 w27 ⟨hC, g27⟩
    refine ⟨fun _ => g27, ?_⟩
    have nC : v27.ownBlock ≠ some bb := fun e => by have := (World.ownsRow.lt hC bb e).1; omega
    have g := g.trans g27
    have hT1 := own_grow hT1 g27
    have hY := hY.grow g27
    have hcl := comF_len s (by omega)
    have hcom : ∀ t ∈ (allF s).2.2.1, ComAt s 0 t := by
      obtain ⟨new, e1, e2⟩ := goF_coms s s.length 0 [] []
      rw [allF, decide_eq_false (by omega : ¬ (20000 : Int) < (s.length : Nat)), cond_false, e1]
      simpa using e2
    have hfin : ∀ l, Blanked s l (allF s).2.2.1 → scanF l = scanF s := fun l hl => scan_blanked (by omega) hl
    have hC : w27.ownsRow _ ty_api_Token 3 v27 (allF s).2.2.1.length (toksCells (allF s).2.2.1) := hC
    generalize (allF s).2.2.1 = C at hC hcl hcom hfin
    obtain ⟨x2, c2, hv2, _⟩ := own_sl hC
    subst hv2
    refine sr_pu rfl (fun _ => rd_assign (ev_t rfl)) ?_
    refine sr_sub [(2, _, _), (3, _, _), (4, _, _), (5, _, _), (6, _, _), (7, _, _)] (sub_cons rfl (sub_cons rfl (sub_cons rfl (sub_cons rfl (sub_cons rfl (sub_cons rfl (sub_nil _))))))) ?_
    refine sr_nil (hK9 _ _ ?_)
    refine sc_seq fun K10 hK10 => ?_
    refine sc_seq fun K11 hK11 => ?_
    refine sc_text [3] ?_
    refine sr_pu rfl (fun _ => rd_assign ev_c) ?_
    refine sr_nil (hK11 _ _ ?_)
    refine sc_block ?_
    refine sc_loop (fun (x : Nat × List UInt8) u => x.1 ≤ C.length ∧ Byt u bb ty_uint8 x.2 ∧ Blanked s x.2 (C.take x.1) ∧ u.ownsRow _ ty_api_Token 3 l1 (scanF s).1.length (toksCells (scanF s).1) ∧ u.ownsRow _ ty_api_Token 3 (.slice x2 C.length c2) C.length (toksCells C) ∧ G w u)
      (fun x => [(3, True, l1), (4, True, .int .i64 (scanF s).2.1), (5, True, .int .i64 (scanF s).2.2), (6, True, .slice (some ⟨bb, 0, none⟩) s.length qq), (7, True, .slice x2 C.length c2), (8, True, .int .i64 x.1)]) (fun x => C.length - x.1) (0, s)
      ⟨Nat.zero_le _, hY, blanked_nil s, hT1, hC, g⟩ (sub_cons rfl (sub_cons rfl (sub_cons rfl (sub_cons rfl (sub_cons rfl (sub_cons rfl (sub_nil _))))))) ?_
    rintro ⟨i, l⟩ u ⟨hi, hY, hB, h1, h7, hw⟩
    replace hi : i ≤ C.length := hi
    replace hY : Byt u bb ty_uint8 l := hY
    replace hB : Blanked s l (C.take i) := hB
    refine sc_seq fun K12 hK12 => ?_
    refine sc_seq fun K13 hK13 => ?_
    refine sc_text [3, 3, 3, 3] ?_
    refine sr_pu rfl (fun _ => rd_move (ev_t rfl)) ?_
    refine sr_pu rfl (fun _ => rd_move (ev_t rfl)) ?_
    refine sr_pu rfl (fun _ => rd_len el_sl_api_Token (ev_t rfl)) ?_
    refine sr_pu rfl (fun _ => rd_lt (ev_t rfl) (ev_t rfl)) ?_
    refine sr_sub [(3, _, _), (4, _, _), (5, _, _), (6, _, _), (7, _, _), (8, _, _), (31, _, _)] (sub_cons rfl (sub_cons rfl (sub_cons rfl (sub_cons rfl (sub_cons rfl (sub_cons rfl (sub_cons rfl (sub_nil _)))))))) ?_
    refine sr_nil (hK13 _ _ ?_)
    refine sc_cond (ev_t rfl) (fun h3 => ?_) (fun h3 => ?_)
    · replace h3 : i < C.length := by simp only [decide_eq_true_eq] at h3; omega
      have hmem : C.getD i tok0 ∈ C := by rw [List.getD_eq_getElem?_getD, List.getElem?_eq_getElem h3]; exact List.getElem_mem h3
      obtain ⟨q, hq, _, _, hqf⟩ := hcom _ hmem
      have htk := take_getD h3
      obtain ⟨b2, c2', hv2, _, hrow0, _⟩ := own_pos h7 (by omega)
      injection hv2 with hv2 _ _
      subst hv2
      refine sc_skip (hK12 _ _ ?_)
      refine sc_sub [(3, _, _), (4, _, _), (5, _, _), (6, _, _), (7, _, _), (8, _, _)] (sub_cons rfl (sub_cons rfl (sub_cons rfl (sub_cons rfl (sub_cons rfl (sub_cons rfl (sub_nil _))))))) ?_
      refine sc_seq fun K14 hK14 => ?_
      refine sc_block ?_
      refine sc_seq fun K15 hK15 => ?_
      refine sc_text [3] ?_
      refine sr_pu rfl (fun _ => rd_assign ev_c) ?_
      refine sr_nil (hK15 _ _ ?_)
      refine sc_block ?_
      refine sc_loop (fun (x : Nat × List UInt8) u => x.1 ≤ (C.getD i tok0).text.length ∧ Byt u bb ty_uint8 x.2 ∧ Blanked s x.2 (C.take i ++ [partT (C.getD i tok0) x.1]) ∧ u.ownsRow _ ty_api_Token 3 l1 (scanF s).1.length (toksCells (scanF s).1) ∧ u.ownsRow _ ty_api_Token 3 (.slice (some ⟨b2, 0, none⟩) C.length c2) C.length (toksCells C) ∧ G w u)
        (fun x => [(3, True, l1), (4, True, .int .i64 (scanF s).2.1), (5, True, .int .i64 (scanF s).2.2), (6, True, .slice (some ⟨bb, 0, none⟩) s.length qq), (7, True, .slice (some ⟨b2, 0, none⟩) C.length c2), (8, True, .int .i64 i), (9, True, .int .i64 x.1)]) (fun x => (C.getD i tok0).text.length - x.1) (0, l)
        ⟨Nat.zero_le _, hY, blanked_0 _ hB, h1, h7, hw⟩ (sub_cons rfl (sub_cons rfl (sub_cons rfl (sub_cons rfl (sub_cons rfl (sub_cons rfl (sub_cons rfl (sub_nil _)))))))) ?_
      rintro ⟨k, l⟩ u ⟨hk, hY, hB, h1, h7, hw⟩
      replace hk : k ≤ (C.getD i tok0).text.length := hk
      replace hY : Byt u bb ty_uint8 l := hY
      replace hB : Blanked s l (C.take i ++ [partT (C.getD i tok0) k]) := hB
      obtain ⟨b2', c2'', hv2, _, hrow, _⟩ := own_pos h7 (by omega)
      injection hv2 with hv2 _ _
      injection hv2 with hv2
      injection hv2 with hv2 _ _
      subst hv2
      have ht := row_tok hrow h3
      have hll := hB.len
      refine sc_seq fun K16 hK16 => ?_
      refine sc_seq fun K17 hK17 => ?_
      refine sc_text [3, 3, 3, 3, 3, 0, 3, 3] ?_
      refine sr_pu rfl (fun _ => rd_move (ev_t rfl)) ?_
      refine sr_pu rfl (fun _ => rd_move (ev_t rfl)) ?_
      refine sr_pu rfl (fun _ => rd_move (ev_t rfl)) ?_
      refine sr_pu rfl (fun _ => rd_idx el_sl_api_Token (ev_t rfl) (ev_t rfl) (fun _ => by omega)) ?_
      refine sr_pu rfl (fun _ => rd_field fo_api_Token_1 (ev_t rfl)) ?_
      refine sr_rd rfl (rd_load one_string (ev_t rfl) (fun _ => ht.get 1 rfl rfl)) ?_
      refine sr_pu rfl (fun _ => rd_slen str_string (ev_t rfl)) ?_
      refine sr_pu rfl (fun _ => rd_lt (ev_t rfl) (ev_t rfl)) ?_
      refine sr_sub [(3, _, _), (4, _, _), (5, _, _), (6, _, _), (7, _, _), (8, _, _), (9, _, _), (41, _, _)] (sub_cons rfl (sub_cons rfl (sub_cons rfl (sub_cons rfl (sub_cons rfl (sub_cons rfl (sub_cons rfl (sub_cons rfl (sub_nil _))))))))) ?_
      refine sr_nil (hK17 _ _ ?_)
      refine sc_cond (ev_t rfl) (fun h4 => ?_) (fun h4 => ?_)
      · replace h4 : k < (C.getD i tok0).text.length := by simp only [decide_eq_true_eq] at h4; omega
        refine sc_skip (hK16 _ _ ?_)
        refine sc_sub [(3, _, _), (4, _, _), (5, _, _), (6, _, _), (7, _, _), (8, _, _), (9, _, _)] (sub_cons rfl (sub_cons rfl (sub_cons rfl (sub_cons rfl (sub_cons rfl (sub_cons rfl (sub_cons rfl (sub_nil _)))))))) ?_
        refine sc_seq fun K18 hK18 => ?_
        refine sc_block ?_
        refine sc_seq fun K19 hK19 => ?_
        refine sc_seq fun K20 hK20 => ?_
        refine sc_text [3, 3, 3, 3, 0, 3, 3, 3, 3, 3, 3, 3, 3, 3, 3, 0, 3, 3] ?_
        refine sr_pu rfl (fun _ => rd_move (ev_t rfl)) ?_
        refine sr_pu rfl (fun _ => rd_move (ev_t rfl)) ?_
        refine sr_pu rfl (fun _ => rd_idx el_sl_api_Token (ev_t rfl) (ev_t rfl) (fun _ => by omega)) ?_
        refine sr_pu rfl (fun _ => rd_field fo_api_Token_2 (ev_t rfl)) ?_
        refine sr_rd rfl (rd_load one_int (ev_t rfl) (fun _ => ht.get 2 rfl rfl)) ?_
        refine sr_pu rfl (fun _ => rd_move (ev_t rfl)) ?_
        refine sr_pu rfl (fun _ => rd_add (ev_t rfl) (ev_t rfl) (fun _ => by show _ ≤ (C.getD i tok0).pos + (k : Int) ∧ (C.getD i tok0).pos + (k : Int) ≤ _; omega)) ?_
        refine sr_pu rfl (fun _ => rd_move (ev_t rfl)) ?_
        refine sr_pu rfl (fun _ => rd_len el_sl_uint8 (ev_t rfl)) ?_
        refine sr_pu rfl (fun _ => rd_ge (ev_t rfl) (ev_t rfl)) ?_
        refine sr_pu rfl (fun _ => rd_move (ev_t rfl)) ?_
        refine sr_pug rfl rfl rfl (fun _ => rd_move (ev_t rfl)) ?_
        refine sr_pug rfl rfl rfl (fun _ => rd_move (ev_t rfl)) ?_
        refine sr_pug rfl rfl rfl (fun _ => rd_idx el_sl_api_Token (ev_u rfl id) (ev_u rfl id) (fun _ => by omega)) ?_
        refine sr_pug rfl rfl rfl (fun _ => rd_field fo_api_Token_2 (ev_u rfl id)) ?_
        refine sr_rdg rfl rfl rfl (rd_load one_int (ev_u rfl id) (fun _ => ht.get 2 rfl rfl)) ?_
        refine sr_pug rfl rfl rfl (fun _ => rd_lt (ev_u rfl id) ev_c) ?_
        refine sr_pu rfl (fun _ => rd_pick_or (ev_t rfl) (ev_u rfl id)) ?_
        refine sr_sub [(3, _, _), (4, _, _), (5, _, _), (6, _, _), (7, _, _), (8, _, _), (9, _, _), (61, _, _)] (sub_cons rfl (sub_cons rfl (sub_cons rfl (sub_cons rfl (sub_cons rfl (sub_cons rfl (sub_cons rfl (sub_cons rfl (sub_nil _))))))))) ?_
        refine sr_nil (hK20 _ _ ?_)
        refine sc_cond (ev_t rfl) (fun h5 => ?_) (fun h5 => ?_)
        · exfalso
          have h5 : (decide ((s.length : Int) ≤ (C.getD i tok0).pos + (k : Int)) || decide ((C.getD i tok0).pos < 0)) = true := h5
          rw [decide_eq_false (by omega), decide_eq_false (by omega)] at h5; cases h5
          done
        · skip
          refine sc_skip (hK19 _ _ ?_)
          refine sc_sub [(3, _, _), (4, _, _), (5, _, _), (6, _, _), (7, _, _), (8, _, _), (9, _, _)] (sub_cons rfl (sub_cons rfl (sub_cons rfl (sub_cons rfl (sub_cons rfl (sub_cons rfl (sub_cons rfl (sub_nil _)))))))) ?_
          refine sc_text [3, 3, 3, 3, 3, 0, 3, 3, 3, 2] ?_
          refine sr_pu rfl (fun _ => rd_move (ev_t rfl)) ?_
          refine sr_pu rfl (fun _ => rd_move (ev_t rfl)) ?_
          refine sr_pu rfl (fun _ => rd_move (ev_t rfl)) ?_
          refine sr_pu rfl (fun _ => rd_idx el_sl_api_Token (ev_t rfl) (ev_t rfl) (fun _ => by omega)) ?_
          refine sr_pu rfl (fun _ => rd_field fo_api_Token_2 (ev_t rfl)) ?_
          refine sr_rd rfl (rd_load one_int (ev_t rfl) (fun _ => ht.get 2 rfl rfl)) ?_
          refine sr_pu rfl (fun _ => rd_move (ev_t rfl)) ?_
          refine sr_pu rfl (fun _ => rd_add (ev_t rfl) (ev_t rfl) (fun _ => by show _ ≤ (C.getD i tok0).pos + (k : Int) ∧ (C.getD i tok0).pos + (k : Int) ≤ _; omega)) ?_
          refine sr_pu rfl (fun _ => rd_idx el_sl_uint8 (ev_t rfl) (ev_t rfl) (fun _ => by show 0 ≤ (C.getD i tok0).pos + (k : Int) ∧ (C.getD i tok0).pos + (k : Int) < (s.length : Nat); omega)) ?_
          refine sr_storeb (c := 32) rfl sz_uint8 (ev_t rfl) ev_c hY (by rw [hll]; show 0 + ((C.getD i tok0).pos + (k : Int)).toNat * 1 < s.length; omega) ?_
          intro w70 hg70 hz70 hY
          have hw := g_only hw hg70 (fun k hk => by injection hk with hk; omega)
          have h1 := own_keep h1 hg70 (.inr n1)
          have h7 := own_keep h7 hg70 (.inr nC)
          rw [show 0 + ((C.getD i tok0).pos + (k : Int)).toNat * 1 = q + k by omega] at hY
          have hB := blanked_step hB hq h4 hqf
          refine sr_sub [(3, _, _), (4, _, _), (5, _, _), (6, _, _), (7, _, _), (8, _, _), (9, _, _)] (sub_cons rfl (sub_cons rfl (sub_cons rfl (sub_cons rfl (sub_cons rfl (sub_cons rfl (sub_cons rfl (sub_nil _)))))))) ?_
          refine sr_nil (hK18 _ _ ?_)
          refine sc_text [3, 3, 3] ?_
          refine sr_pu rfl (fun _ => rd_move (ev_t rfl)) ?_
          refine sr_pu rfl (fun _ => rd_add (ev_t rfl) ev_c (fun _ => by omega)) ?_
          refine sr_pu rfl (fun _ => rd_assign (ev_t rfl)) ?_
          refine sr_sub [(3, _, _), (4, _, _), (5, _, _), (6, _, _), (7, _, _), (8, _, _), (9, _, _)] (sub_cons rfl (sub_cons rfl (sub_cons rfl (sub_cons rfl (sub_cons rfl (sub_cons rfl (sub_cons rfl (sub_nil _)))))))) ?_
          refine sr_nil (fun a ha => ?_)
          exact ⟨(k + 1, _), ha, ⟨h4, hY, hB, h1, h7, hw⟩, by show (C.getD i tok0).text.length - (k + 1) < (C.getD i tok0).text.length - k; omega⟩
      · have hk : k = (C.getD i tok0).text.length := by simp only [decide_eq_false_iff_not] at h4; omega
        subst hk
        have hB := blanked_end hB
        rw [← htk] at hB
        refine sc_exit rfl (hK14 _ _ ?_)
        refine sc_sub [(3, _, _), (4, _, _), (5, _, _), (6, _, _), (7, _, _), (8, _, _)] (sub_cons rfl (sub_cons rfl (sub_cons rfl (sub_cons rfl (sub_cons rfl (sub_cons rfl (sub_nil _))))))) ?_
        refine sc_text [3, 3, 3] ?_
        refine sr_pu rfl (fun _ => rd_move (ev_t rfl)) ?_
        refine sr_pu rfl (fun _ => rd_add (ev_t rfl) ev_c (fun _ => by omega)) ?_
        refine sr_pu rfl (fun _ => rd_assign (ev_t rfl)) ?_
        refine sr_sub [(3, _, _), (4, _, _), (5, _, _), (6, _, _), (7, _, _), (8, _, _)] (sub_cons rfl (sub_cons rfl (sub_cons rfl (sub_cons rfl (sub_cons rfl (sub_cons rfl (sub_nil _))))))) ?_
        refine sr_nil (fun a ha => ?_)
        exact ⟨(i + 1, l), ha, ⟨h3, hY, hB, h1, h7, hw⟩, by show C.length - (i + 1) < C.length - i; omega⟩
    · have hi : i = C.length := by simp only [decide_eq_false_iff_not] at h3; omega
      subst hi
      rw [List.take_length] at hB
      have hsc := hfin l hB
      have hll := hB.len
      refine sc_exit rfl (hK10 _ _ ?_)
      refine sc_sub [(3, _, _), (4, _, _), (5, _, _), (6, _, _)] (sub_cons rfl (sub_cons rfl (sub_cons rfl (sub_cons rfl (sub_nil _))))) ?_
      refine sc_seq fun K21 hK21 => ?_
      refine sc_text [3, 0, 1, 3, 3, 3, 3, 3, 3, 3] ?_
      refine sr_pu rfl (fun _ => rd_move (ev_t rfl)) ?_
      refine sr_rd rfl (rd_tostr (l := l) el_sl_uint8 ik_uint8 str_string (ev_t rfl) hll (fun _ => hY.row)) ?_
      refine sr_call rfl (rc_call go_scan_Scan ev_f (args_cons (ev_t rfl) (args_nil)) rfl) (scan_ok l _ (hL.grow hw) (by have := hw.size; omega)) ?_
      rintro v74 w74 ⟨l2, rfl, hT2, g74⟩
      refine ⟨fun _ => g74, ?_⟩
      have hw := hw.trans g74
      have h1 := own_grow h1 g74
      rw [hsc] at hT2
      rw [hsc]
      have hR1 : RowT (scanF s).1 l1 w74 := Toks.row h1
      have hR2 := hT2.row
      refine sr_pu rfl (fun _ => rd_move (ev_t rfl)) ?_
      refine sr_pu rfl (fun _ => rd_extract (ev_t rfl) rfl) ?_
      refine sr_pu rfl (fun _ => rd_extract (ev_t rfl) rfl) ?_
      refine sr_pu rfl (fun _ => rd_extract (ev_t rfl) rfl) ?_
      refine sr_pu rfl (fun _ => rd_assign (ev_t rfl)) ?_
      refine sr_pu rfl (fun _ => rd_assign (ev_t rfl)) ?_
      refine sr_pu rfl (fun _ => rd_assign (ev_t rfl)) ?_
      refine sr_nil (hK21 _ _ ?_)
      refine sc_sub [(3, _, _), (4, _, _), (5, _, _), (6, _, _), (10, _, _), (11, _, _), (12, _, _), (71, _, _), (72, _, _), (73, _, _), (74, _, _), (75, _, _), (76, _, _), (77, _, _)] (sub_cons rfl (sub_cons rfl (sub_cons rfl (sub_cons rfl (sub_cons rfl (sub_cons rfl (sub_cons rfl (sub_cons rfl (sub_cons rfl (sub_cons rfl (sub_cons rfl (sub_cons rfl (sub_cons rfl (sub_cons rfl (sub_nil _))))))))))))))) ?_
      refine sc_seq fun K22 hK22 => ?_
      refine sc_text [3, 3, 3, 3, 3, 3, 3, 3, 3, 3, 3, 1, 3, 3] ?_
      refine sr_pu rfl (fun _ => rd_move (ev_t rfl)) ?_
      refine sr_pu rfl (fun _ => rd_move (ev_t rfl)) ?_
      refine sr_pu rfl (fun _ => rd_eq (ev_t rfl) (ev_t rfl)) ?_
      refine sr_pu rfl (fun _ => rd_move (ev_t rfl)) ?_
      refine sr_pug rfl rfl rfl (fun _ => rd_move (ev_t rfl)) ?_
      refine sr_pug rfl rfl rfl (fun _ => rd_move (ev_t rfl)) ?_
      refine sr_pug rfl rfl rfl (fun _ => rd_eq (ev_u rfl id) (ev_u rfl id)) ?_
      refine sr_pu rfl (fun _ => rd_pick_and (ev_t rfl) (ev_u rfl id)) ?_
      refine sr_pu rfl (fun _ => rd_move (ev_t rfl)) ?_
      refine sr_pug rfl rfl rfl (fun _ => rd_move (ev_t rfl)) ?_
      refine sr_pug rfl rfl rfl (fun _ => rd_move (ev_t rfl)) ?_
      refine sr_pureg rfl rfl rfl (fun _ => (rc_call go_r02_Same ev_f (args_cons (ev_u rfl id) (args_cons (ev_u rfl id) (args_nil))) rfl)) (fun hc => same_ok _ _ _ _ _ hR1 hR2 (by omega)) (fun w89 g89 => ?_)
      have hw := hw.trans g89
      refine sr_pu rfl (fun _ => rd_pick_and (ev_t rfl) (ev_u rfl id)) ?_
      refine sr_pu rfl (fun _ => rd_assign (ev_t rfl)) ?_
      refine sr_nil (hK22 _ _ ?_)
      refine sc_sub [(2, _, _), (3, _, _), (4, _, _), (5, _, _), (6, _, _), (10, _, _), (11, _, _), (12, _, _), (71, _, _), (72, _, _), (73, _, _), (74, _, _), (75, _, _), (76, _, _), (77, _, _), (78, _, _), (79, _, _), (80, _, _), (81, _, _), (82, _, _), (83, _, _), (84, _, _), (85, _, _), (86, _, _), (87, _, _), (88, _, _), (89, _, _), (90, _, _)] (sub_cons rfl (sub_cons rfl (sub_cons rfl (sub_cons rfl (sub_cons rfl (sub_cons rfl (sub_cons rfl (sub_cons rfl (sub_cons rfl (sub_cons rfl (sub_cons rfl (sub_cons rfl (sub_cons rfl (sub_cons rfl (sub_cons rfl (sub_cons rfl (sub_cons rfl (sub_cons rfl (sub_cons rfl (sub_cons rfl (sub_cons rfl (sub_cons rfl (sub_cons rfl (sub_cons rfl (sub_cons rfl (sub_cons rfl (sub_cons rfl (sub_cons rfl (sub_nil _))))))))))))))))))))))))))))) ?_
      refine sc_ret (t_ret1 rfl rfl ?_)
      refine ⟨congrArg Value.bool ?_, hw⟩
      rw [decide_eq_true rfl, decide_eq_true rfl, sameB_refl]; rfl
end Go.Rk
