/- The scanner's step. Conditions: the variables operators and ErrRange hold what start-up laid. -/
import Derived.Test.YtheifopckahdiaaDoorScanP
namespace Go.Rk
open Go Go.RowKit
def opsL : List (List UInt8) := [[58, 61], [61, 61], [33, 61], [60, 61], [62, 61], [38, 38], [124, 124], [60, 45], [40], [41], [91], [93], [123], [125], [44], [59], [58], [46], [61], [60], [62], [43], [45], [42], [47], [37], [33]]
/-- What start-up laid. -/
structure Laid (w : World) : Prop where
  ops : RowAt w 0 0 (opsL.map Str)
  err : ∃ ev, w.cell? ⟨3, 0, none⟩ = some ev ∧ (ev = .nilIface ∨ ∃ te pe, ev = .iface te pe)
theorem Laid.below {w w' : World} {base : Nat} (h : Laid w) (hb : 4 ≤ base) (g : Below base w w') : Laid w' :=
  ⟨fun j v hj => (Below.cell g (show 0 < base by omega)).trans (h.ops j v hj), by
    obtain ⟨ev, h1, h2⟩ := h.err
    exact ⟨ev, (Below.cell g (show 3 < base by omega)).trans h1, h2⟩⟩
theorem Laid.grow {w w' : World} (h : Laid w) (g : G w w') : Laid w' :=
  ⟨h.ops.grow g, by
    obtain ⟨ev, h1, h2⟩ := h.err
    exact ⟨ev, cell_grow g h1, h2⟩⟩
def cAt (s : List UInt8) (p : Nat) : Int := ((s.getD p 0).toNat : Int)
def isNotLf (c : Int) : Bool := !decide (c = 10)
def isAlnum (c : Int) : Bool := letterB c || digitB c
def opLen (l : List UInt8) : Nat := match opsL.find? (fun o => preB o l) with
  | some o => o.length
  | none => 0
def badD (s : List UInt8) (p n : Nat) : Bool := (decide (cAt s p = 48) && decide ((1 : Int) < n)) || (decide ((p : Int) + n < s.length) && letterB (cAt s (p + n)))
def wordK (l : List UInt8) : Int := bif inB kws l then 3 else 1
/-- One step: the place, the tokens, the comments, the error. -/
def nextF (s : List UInt8) (p : Nat) (ts cs : List Tok) : Nat × List Tok × List Tok × Int :=
  bif decide (cAt s p = 10) then (p + 1, nlTs p ts, cs, 0)
  else bif (decide (cAt s p = 32) || decide (cAt s p = 9)) || decide (cAt s p = 13) then (p + 1, ts, cs, 0)
  else bif preB [47, 47] (s.drop p) then (p + runN isNotLf (s.drop p), ts, cs ++ [⟨5, (s.drop p).take (runN isNotLf (s.drop p)), p⟩], 0)
  else bif letterB (cAt s p) then bif decide ((32 : Int) < runN isAlnum (s.drop p)) then (p, ts, cs, 3)
    else (p + runN isAlnum (s.drop p), ts ++ [⟨wordK ((s.drop p).take (runN isAlnum (s.drop p))), (s.drop p).take (runN isAlnum (s.drop p)), p⟩], cs, 0)
  else bif digitB (cAt s p) then bif badD s p (runN digitB (s.drop p)) then (p, ts, cs, 4)
    else bif decide (valN 0 ((s.drop p).take (runN digitB (s.drop p))) < 9223372036854775808) then (p + runN digitB (s.drop p), ts ++ [⟨2, (s.drop p).take (runN digitB (s.drop p)), p⟩], cs, 0) else (p, ts, cs, 4)
  else bif Nat.beq (opLen (s.drop p)) 0 then (p, ts, cs, 4)
  else (p + opLen (s.drop p), ts ++ [⟨4, (s.drop p).take (opLen (s.drop p)), p⟩], cs, 0)
theorem runN_pos {q : Int → Bool} {s : List UInt8} {p : Nat} (h : p < s.length) (hq : q (cAt s p) = true) : 1 ≤ runN q (s.drop p) := by rw [runN_step h hq]; omega
theorem runN_fit (q : Int → Bool) {s : List UInt8} {p : Nat} (h : p < s.length) : p + runN q (s.drop p) ≤ s.length := by
  have := runN_le q (s.drop p); rw [List.length_drop] at this; omega
theorem runN_all (q : Int → Bool) : ∀ (l : List UInt8), ∀ c ∈ l.take (runN q l), q c.toNat = true
  | [], c, hc => by cases hc
  | a :: l, c, hc => by
    rw [runN] at hc
    split at hc
    · rename_i h
      rw [List.take_succ_cons] at hc
      rcases List.mem_cons.mp hc with rfl | hc
      · exact h
      · exact runN_all q l c hc
    · cases hc
theorem digits_allD (s : List UInt8) (p : Nat) : allD ((s.drop p).take (runN digitB (s.drop p))) := fun c hc => by
  have := runN_all digitB _ c hc
  simp only [digitB, Bool.and_eq_true, decide_eq_true_eq] at this
  omega
theorem opsL_at {i : Nat} (h : i < 27) : (opsL.map Str).toArray[i]? = some (Str (opsL.getD i [])) := by
  have hl : opsL.length = 27 := rfl
  simp [List.getD_eq_getElem?_getD, List.getElem?_eq_getElem (show i < opsL.length by omega)]
theorem opsL_pos : ∀ i < 27, 1 ≤ (opsL.getD i []).length := by decide
theorem opLen_some {l : List UInt8} {i : Nat} (h : i < 27) (h1 : ∀ j < i, preB (opsL.getD j []) l = false) (h2 : preB (opsL.getD i []) l = true) : opLen l = (opsL.getD i []).length := by
  have hl : opsL.length = 27 := rfl
  have : opsL.find? (fun o => preB o l) = some (opsL.getD i []) := by
    rw [List.find?_eq_some_iff_getElem]
    refine ⟨h2, i, by omega, ?_, fun j hj => ?_⟩
    · simp [List.getD_eq_getElem?_getD, List.getElem?_eq_getElem (show i < opsL.length by omega)]
    · have := h1 j hj
      simp [List.getD_eq_getElem?_getD, List.getElem?_eq_getElem (show j < opsL.length by omega)] at this
      simp [this]
  rw [opLen, this]
theorem opLen_none {l : List UInt8} (h1 : ∀ j < 27, preB (opsL.getD j []) l = false) : opLen l = 0 := by
  have hl : opsL.length = 27 := rfl
  have : opsL.find? (fun o => preB o l) = none := by
    rw [List.find?_eq_none]
    intro o ho
    obtain ⟨j, hj, rfl⟩ := List.getElem_of_mem ho
    have := h1 j (by omega)
    simp [List.getD_eq_getElem?_getD, List.getElem?_eq_getElem hj] at this
    simp [this]
  rw [opLen, this]
theorem preB_len {o l : List UInt8} (h : preB o l = true) : o.length ≤ l.length ∧ l.take o.length = o := by
  simpa [preB] using h
theorem next_ok (base b : Nat) (hb3 : 4 ≤ base) (s : List UInt8) (p : Nat) (ts cs : List Tok) (w : World) (hL : Laid w) (hs : Scn base b s p ts cs w) (hp : p < s.length) :
    Ret PP fn_scan_scanner_next #[.pointer (some ⟨b, 0, none⟩)] w fun v w' => v = .int .i64 (nextF s p ts cs).2.2.2 ∧ Scn base b s (nextF s p ts cs).1 (nextF s p ts cs).2.1 (nextF s p ts cs).2.2.1 w' ∧ Below base w w' := by
  obtain ⟨ta, tc, ca, cc, hs, k1, k2, k3, k4⟩ := hs.sa
  have g := G.refl w
  refine ret_of_sc (m := 204) func_scan_scanner_next rfl rfl [(0, True, _)] (sub_cons rfl (sub_nil _)) ?_
  refine sc_seq fun K1 hK1 => ?_
  refine sc_text [3] ?_
  refine sr_pu rfl (fun _ => rd_assign ev_c) ?_
  refine sr_nil (hK1 _ _ ?_)
  refine sc_seq fun K2 hK2 => ?_
  refine sc_draw [3, 3, 3, 0, 3, 3, 3, 0, 3, 3] [true, true, true, true, true, true, true, true, true, true] [0, 1, 3, 7, 0, 16, 48, 112, 255, 511] mix (by kernel_rfl) ?_
  have g := g.trans (G.drew _)
  refine sr_pu rfl (fun _ => rd_move (ev_t rfl)) ?_
  refine sr_pu rfl (fun _ => rd_nil (ev_t rfl)) ?_
  refine sr_pu rfl (fun _ => rd_field fo_scan_scanner_0 (ev_t rfl)) ?_
  refine sr_rd rfl (rd_load one_string (ev_t rfl) (fun _ => by first | exact (hs.grow g).B.at_ rfl)) ?_
  refine sr_pu rfl (fun _ => rd_move (ev_t rfl)) ?_
  refine sr_pu rfl (fun _ => rd_nil (ev_t rfl)) ?_
  refine sr_pu rfl (fun _ => rd_field fo_scan_scanner_1 (ev_t rfl)) ?_
  refine sr_rd rfl (rd_load one_int (ev_t rfl) (fun _ => by first | exact (hs.grow g).B.at_ rfl)) ?_
  refine sr_pu rfl (fun _ => rd_sidx str_string (ev_t rfl) (ev_t rfl) (fun _ => by omega)) ?_
  refine sr_pu rfl (fun _ => rd_assign (ev_t rfl)) ?_
  refine sr_sub [(0, _, _), (2, _, _), (3, _, _)] (sub_cons rfl (sub_cons rfl (sub_cons rfl (sub_nil _)))) ?_
  refine sr_nil (hK2 _ _ ?_)
  refine sc_seq fun K3 hK3 => ?_
  refine sc_block ?_
  refine sc_seq fun K4 hK4 => ?_
  refine sc_text [3, 3, 3] ?_
  refine sr_pu rfl (fun _ => rd_move (ev_t rfl)) ?_
  refine sr_pu rfl (fun _ => rd_eq (ev_t rfl) ev_c) ?_
  refine sr_pu rfl (fun _ => rd_assign (ev_t rfl)) ?_
  refine sr_sub [(0, _, _), (2, _, _), (3, _, _), (41, _, _)] (sub_cons rfl (sub_cons rfl (sub_cons rfl (sub_cons rfl (sub_nil _))))) ?_
  refine sr_nil (hK4 _ _ ?_)
  refine sc_cond (ev_t rfl) (fun h1 => ?_) (fun h1 => ?_)
  · replace h1 : decide (cAt s p = 10) = true := h1
    have hN : nextF s p ts cs = (p + 1, nlTs p ts, cs, 0) := by unfold nextF; rw [h1]; rfl
    refine sc_text [3, 2] ?_
    refine sr_pu rfl (fun _ => rd_move (ev_t rfl)) ?_
    refine sr_call rfl (rc_call go_scan_scanner_newline ev_f (args_cons (ev_t rfl) (args_nil)) rfl) (newline_ok base b s p ts cs _ ((hs.grow g).scn k1 k2 k3 k4) hp) ?_
    rintro v45 w45 ⟨rfl, hs', hb'⟩
    refine ⟨fun h => absurd h (by decide), ?_⟩
    have hb' := (below_g g hs.base_le).trans hb'
    refine sr_sub [(2, _, _)] (sub_cons rfl (sub_nil _)) ?_
    refine sr_nil (hK3 _ _ ?_)
    refine sc_seq fun K5 hK5 => ?_
    refine sc_text [3] ?_
    refine sr_pu rfl (fun _ => rd_assign ev_c) ?_
    refine sr_nil (hK5 _ _ ?_)
    refine sc_ret (t_ret1 rfl rfl ?_)
    rw [hN]; exact ⟨rfl, hs', hb'⟩
  · replace h1 : decide (cAt s p = 10) = false := h1
    refine sc_seq fun K6 hK6 => ?_
    refine sc_text [3, 3, 3, 3, 3, 3, 3, 3, 3, 3, 3] ?_
    refine sr_pu rfl (fun _ => rd_move (ev_t rfl)) ?_
    refine sr_pu rfl (fun _ => rd_eq (ev_t rfl) ev_c) ?_
    refine sr_pu rfl (fun _ => rd_move (ev_t rfl)) ?_
    refine sr_pug rfl rfl rfl (fun _ => rd_move (ev_t rfl)) ?_
    refine sr_pug rfl rfl rfl (fun _ => rd_eq (ev_u rfl id) ev_c) ?_
    refine sr_pu rfl (fun _ => rd_pick_or (ev_t rfl) (ev_u rfl id)) ?_
    refine sr_pu rfl (fun _ => rd_move (ev_t rfl)) ?_
    refine sr_pug rfl rfl rfl (fun _ => rd_move (ev_t rfl)) ?_
    refine sr_pug rfl rfl rfl (fun _ => rd_eq (ev_u rfl id) ev_c) ?_
    refine sr_pu rfl (fun _ => rd_pick_or (ev_t rfl) (ev_u rfl id)) ?_
    refine sr_pu rfl (fun _ => rd_assign (ev_t rfl)) ?_
    refine sr_sub [(0, _, _), (2, _, _), (3, _, _), (46, _, _)] (sub_cons rfl (sub_cons rfl (sub_cons rfl (sub_cons rfl (sub_nil _))))) ?_
    refine sr_nil (hK6 _ _ ?_)
    refine sc_cond (ev_t rfl) (fun h2 => ?_) (fun h2 => ?_)
    · replace h2 : ((decide (cAt s p = 32) || decide (cAt s p = 9)) || decide (cAt s p = 13)) = true := h2
      have hN : nextF s p ts cs = (p + 1, ts, cs, 0) := by unfold nextF; rw [h1, h2]; rfl
      refine sc_text [3, 3, 3, 0, 3, 3, 3, 2] ?_
      refine sr_pu rfl (fun _ => rd_move (ev_t rfl)) ?_
      refine sr_pu rfl (fun _ => rd_nil (ev_t rfl)) ?_
      refine sr_pu rfl (fun _ => rd_field fo_scan_scanner_1 (ev_t rfl)) ?_
      refine sr_rd rfl (rd_load one_int (ev_t rfl) (fun _ => by first | exact (hs.grow g).B.at_ rfl)) ?_
      refine sr_pu rfl (fun _ => rd_add (ev_t rfl) ev_c (fun _ => by omega)) ?_
      refine sr_pu rfl (fun _ => rd_nil (ev_t rfl)) ?_
      refine sr_pu rfl (fun _ => rd_field fo_scan_scanner_1 (ev_t rfl)) ?_
      refine sr_store rfl sz_int (ev_t rfl) (ev_t rfl) rfl rfl (hs.grow g).B rfl rfl ?_
      intro w63 hg63 hz63 hB
      have hb' := below_go (Below.refl _ _) g hg63 hs.base_le hs.hb
      have hs' := ((hs.grow g).setp (q := p + 1) hg63 hB).scn (by omega) (by omega) (by omega) k4
      refine sr_sub [(2, _, _)] (sub_cons rfl (sub_nil _)) ?_
      refine sr_nil (hK3 _ _ ?_)
      refine sc_seq fun K7 hK7 => ?_
      refine sc_text [3] ?_
      refine sr_pu rfl (fun _ => rd_assign ev_c) ?_
      refine sr_nil (hK7 _ _ ?_)
      refine sc_ret (t_ret1 rfl rfl ?_)
      rw [hN]; exact ⟨rfl, hs', hb'⟩
    · replace h2 : ((decide (cAt s p = 32) || decide (cAt s p = 9)) || decide (cAt s p = 13)) = false := h2
      refine sc_seq fun K8 hK8 => ?_
      refine sc_draw [3, 3, 3, 0, 3, 3, 3, 0, 3, 1, 3] [true, true, true, true, true, true, true, true, true, true, true] [0, 1, 3, 7, 0, 16, 48, 112, 255, 511, 1023] mix (by kernel_rfl) ?_
      have g := g.trans (G.drew _)
      refine sr_pu rfl (fun _ => rd_move (ev_t rfl)) ?_
      refine sr_pu rfl (fun _ => rd_nil (ev_t rfl)) ?_
      refine sr_pu rfl (fun _ => rd_field fo_scan_scanner_0 (ev_t rfl)) ?_
      refine sr_rd rfl (rd_load one_string (ev_t rfl) (fun _ => by first | exact (hs.grow g).B.at_ rfl)) ?_
      refine sr_pu rfl (fun _ => rd_move (ev_t rfl)) ?_
      refine sr_pu rfl (fun _ => rd_nil (ev_t rfl)) ?_
      refine sr_pu rfl (fun _ => rd_field fo_scan_scanner_1 (ev_t rfl)) ?_
      refine sr_rd rfl (rd_load one_int (ev_t rfl) (fun _ => by first | exact (hs.grow g).B.at_ rfl)) ?_
      refine sr_pu rfl (fun _ => rd_ssl_from str_string (ev_t rfl) (ev_t rfl) (fun _ => by omega)) ?_
      refine sr_pure rfl (rc_call go_strings_HasPrefix ev_f (args_cons (ev_t rfl) (args_cons ev_c (args_nil))) rfl) (shasprefix_ok _ _ _) (fun w74 g74 => ?_)
      have g := g.trans (g74)
      refine sr_pu rfl (fun _ => rd_assign (ev_t rfl)) ?_
      refine sr_sub [(0, _, _), (2, _, _), (3, _, _), (64, _, _)] (sub_cons rfl (sub_cons rfl (sub_cons rfl (sub_cons rfl (sub_nil _))))) ?_
      refine sr_nil (hK8 _ _ ?_)
      refine sc_cond (ev_t rfl) (fun h3 => ?_) (fun h3 => ?_)
      · replace h3 : preB [47, 47] (s.drop p) = true := h3
        have hn := runN_pos (q := isNotLf) hp (by rw [isNotLf, h1]; rfl)
        have hf := runN_fit isNotLf hp
        have hN : nextF s p ts cs = (p + runN isNotLf (s.drop p), ts, cs ++ [⟨5, (s.drop p).take (runN isNotLf (s.drop p)), p⟩], 0) := by unfold nextF; rw [h1, h2, h3]; rfl
        have e : ((p : Int) + (runN isNotLf (s.drop p) : Nat)).toNat - (p : Int).toNat = runN isNotLf (s.drop p) := by omega
        refine sc_seq fun K9 hK9 => ?_
        refine sc_text [3, 1, 3] ?_
        refine sr_pu rfl (fun _ => rd_move (ev_t rfl)) ?_
        refine sr_pure rfl (rc_call go_scan_scanner_run ev_f (args_cons (ev_t rfl) (args_cons ev_f (args_nil))) rfl) (run_ok base b s p ts cs _ ((hs.grow g).scn k1 k2 k3 k4) _ isNotLf go_scan_scanner_next_1 notlf_ok) (fun w76 g76 => ?_)
        have g := g.trans (g76)
        refine sr_pu rfl (fun _ => rd_assign (ev_t rfl)) ?_
        refine sr_sub [(0, _, _), (2, _, _), (4, _, _)] (sub_cons rfl (sub_cons rfl (sub_cons rfl (sub_nil _)))) ?_
        refine sr_nil (hK9 _ _ ?_)
        refine sc_seq fun K10 hK10 => ?_
        refine sc_draw [3, 3, 3, 3, 0, 3, 3, 3, 0, 3, 3, 3, 0, 3, 3, 3, 0, 3, 3, 3, 3, 3, 3, 0, 3, 1, 2, 3, 3, 2] [true, true, true, true, true, true, true, true, true, true, true, true, true, true, true, true, true, true, true, true, true, true, true, true, true, true, true, true, true, true] [0, 0, 2, 6, 14, 0, 32, 96, 224, 0, 512, 1536, 3584, 0, 8192, 24576, 57344, 0, 253952, 524256, 0, 1048576, 3145728, 7340032, 16777184, 33554400, 67108862, 134217727, 268435455, 536870911] mix (by kernel_rfl) ?_
        have g := g.trans (G.drew _)
        refine sr_pu rfl (fun _ => rd_move (ev_t rfl)) ?_
        refine sr_pu rfl (fun _ => rd_move (ev_t rfl)) ?_
        refine sr_pu rfl (fun _ => rd_nil (ev_t rfl)) ?_
        refine sr_pu rfl (fun _ => rd_field fo_scan_scanner_3 (ev_t rfl)) ?_
        refine sr_rd rfl (rd_load one_sl_api_Token (ev_t rfl) (fun _ => by first | exact (hs.grow g).B.at_ rfl)) ?_
        refine sr_pu rfl (fun _ => rd_move (ev_t rfl)) ?_
        refine sr_pu rfl (fun _ => rd_nil (ev_t rfl)) ?_
        refine sr_pu rfl (fun _ => rd_field fo_scan_scanner_0 (ev_t rfl)) ?_
        refine sr_rd rfl (rd_load one_string (ev_t rfl) (fun _ => by first | exact (hs.grow g).B.at_ rfl)) ?_
        refine sr_pu rfl (fun _ => rd_move (ev_t rfl)) ?_
        refine sr_pu rfl (fun _ => rd_nil (ev_t rfl)) ?_
        refine sr_pu rfl (fun _ => rd_field fo_scan_scanner_1 (ev_t rfl)) ?_
        refine sr_rd rfl (rd_load one_int (ev_t rfl) (fun _ => by first | exact (hs.grow g).B.at_ rfl)) ?_
        refine sr_pu rfl (fun _ => rd_move (ev_t rfl)) ?_
        refine sr_pu rfl (fun _ => rd_nil (ev_t rfl)) ?_
        refine sr_pu rfl (fun _ => rd_field fo_scan_scanner_1 (ev_t rfl)) ?_
        refine sr_rd rfl (rd_load one_int (ev_t rfl) (fun _ => by first | exact (hs.grow g).B.at_ rfl)) ?_
        refine sr_pu rfl (fun _ => rd_move (ev_t rfl)) ?_
        refine sr_pu rfl (fun _ => rd_add (ev_t rfl) (ev_t rfl) (fun _ => by omega)) ?_
        refine sr_pu rfl (fun _ => rd_ssl str_string (ev_t rfl) (ev_t rfl) (ev_t rfl) (fun _ => by omega)) ?_
        refine sr_pu rfl (fun _ => rd_move (ev_t rfl)) ?_
        refine sr_pu rfl (fun _ => rd_nil (ev_t rfl)) ?_
        refine sr_pu rfl (fun _ => rd_field fo_scan_scanner_1 (ev_t rfl)) ?_
        refine sr_rd rfl (rd_load one_int (ev_t rfl) (fun _ => by first | exact (hs.grow g).B.at_ rfl)) ?_
        refine sr_pu rfl (fun _ => rd_build [_, _, _] ze_api_Token rfl pl_api_Token (parts_cons ev_c (parts_cons (ev_t rfl) (parts_cons (ev_t rfl) (parts_nil)))) rfl) ?_
        refine sr_buildSlice [_, _, _] rfl el_sl_api_Token ze_api_Token (parts_cons (ev_t rfl) (parts_nil)) rfl rfl ?_
        intro b102 w102 N102
        have l102 := N102.ge g
        have g := g.trans (N102.g)
        have B102 := N102.blk
        have hb := below_g g hs.base_le
        have hs := hs.grow g
        have hz0 := hs.base_le
        refine sr_append rfl el_sl_api_Token ze_api_Token rfl (by decide) (ev_t rfl) hs.hc (ev_t rfl) rfl N102.blk.row rfl (by simp only [maxLen]; omega) (by omega) (by omega) ?_
        intro ca' cc' w103 hc' hg103 hat
        have hB := hs.B.keep hg103 (Ne.symm hs.n2)
        have hz := hg103.size
        refine sr_pu rfl (fun _ => rd_nil (ev_t rfl)) ?_
        refine sr_pu rfl (fun _ => rd_field fo_scan_scanner_3 (ev_t rfl)) ?_
        refine sr_store rfl sz_sl_api_Token (ev_t rfl) (ev_t rfl) rfl rfl hB rfl rfl ?_
        intro w105 hg105 hz105 hB
        have hb := below_only (below_only hb hg103 hs.base_le (fun k hk => (hs.hc.lt k hk).1)) hg105 (by have := hs.base_le; omega) (fun k hk => by injection hk with hk; have := hs.hb; omega)
        rw [e] at hc'
        have hs := hs.putC (t := ⟨5, (s.drop p).take (runN isNotLf (s.drop p)), p⟩) hc' hg103 hat hg105 hB
        have g := G.refl w105
        refine sr_sub [(0, _, _), (2, _, _), (4, _, _)] (sub_cons rfl (sub_cons rfl (sub_cons rfl (sub_nil _)))) ?_
        refine sr_nil (hK10 _ _ ?_)
        refine sc_text [3, 3, 3, 0, 3, 3, 3, 3, 2] ?_
        refine sr_pu rfl (fun _ => rd_move (ev_t rfl)) ?_
        refine sr_pu rfl (fun _ => rd_nil (ev_t rfl)) ?_
        refine sr_pu rfl (fun _ => rd_field fo_scan_scanner_1 (ev_t rfl)) ?_
        refine sr_rd rfl (rd_load one_int (ev_t rfl) (fun _ => by first | exact (hs.grow g).B.at_ rfl | exact B102.at_ rfl | exact B102.row)) ?_
        refine sr_pu rfl (fun _ => rd_move (ev_t rfl)) ?_
        refine sr_pu rfl (fun _ => rd_add (ev_t rfl) (ev_t rfl) (fun _ => by omega)) ?_
        refine sr_pu rfl (fun _ => rd_nil (ev_t rfl)) ?_
        refine sr_pu rfl (fun _ => rd_field fo_scan_scanner_1 (ev_t rfl)) ?_
        refine sr_store rfl sz_int (ev_t rfl) (ev_t rfl) rfl rfl (hs.grow g).B rfl rfl ?_
        intro w113 hg113 hz113 hB
        have hb' := below_go hb g hg113 hs.base_le hs.hb
        have hs' := ((hs.grow g).setp (q := p + runN isNotLf (s.drop p)) hg113 hB).scn (by omega) (by rw [List.length_append]; show cs.length + 1 ≤ _; omega) hf k4
        refine sr_sub [(2, _, _)] (sub_cons rfl (sub_nil _)) ?_
        refine sr_nil (hK3 _ _ ?_)
        refine sc_seq fun K11 hK11 => ?_
        refine sc_text [3] ?_
        refine sr_pu rfl (fun _ => rd_assign ev_c) ?_
        refine sr_nil (hK11 _ _ ?_)
        refine sc_ret (t_ret1 rfl rfl ?_)
        rw [hN]; exact ⟨rfl, hs', hb'⟩
      · replace h3 : preB [47, 47] (s.drop p) = false := h3
        refine sc_seq fun K12 hK12 => ?_
        refine sc_text [3, 1, 3] ?_
        refine sr_pu rfl (fun _ => rd_move (ev_t rfl)) ?_
        refine sr_pure rfl (rc_call go_scan_letter ev_f (args_cons (ev_t rfl) (args_nil)) rfl) (letter_ok _ _) (fun w116 g116 => ?_)
        have g := g.trans (g116)
        refine sr_pu rfl (fun _ => rd_assign (ev_t rfl)) ?_
        refine sr_sub [(0, _, _), (2, _, _), (3, _, _), (114, _, _)] (sub_cons rfl (sub_cons rfl (sub_cons rfl (sub_cons rfl (sub_nil _))))) ?_
        refine sr_nil (hK12 _ _ ?_)
        refine sc_cond (ev_t rfl) (fun h4 => ?_) (fun h4 => ?_)
        · replace h4 : letterB (cAt s p) = true := h4
          have hn := runN_pos (q := isAlnum) hp (by rw [isAlnum, h4]; rfl)
          have hf := runN_fit isAlnum hp
          have e : ((p : Int) + (runN isAlnum (s.drop p) : Nat)).toNat - (p : Int).toNat = runN isAlnum (s.drop p) := by omega
          refine sc_seq fun K13 hK13 => ?_
          refine sc_text [3, 1, 3] ?_
          refine sr_pu rfl (fun _ => rd_move (ev_t rfl)) ?_
          refine sr_pure rfl (rc_call go_scan_scanner_run ev_f (args_cons (ev_t rfl) (args_cons ev_f (args_nil))) rfl) (run_ok base b s p ts cs _ ((hs.grow g).scn k1 k2 k3 k4) _ isAlnum go_scan_scanner_next_2 alnum_ok) (fun w118 g118 => ?_)
          have g := g.trans (g118)
          refine sr_pu rfl (fun _ => rd_assign (ev_t rfl)) ?_
          refine sr_sub [(0, _, _), (2, _, _), (5, _, _)] (sub_cons rfl (sub_cons rfl (sub_cons rfl (sub_nil _)))) ?_
          refine sr_nil (hK13 _ _ ?_)
          refine sc_seq fun K14 hK14 => ?_
          refine sc_seq fun K15 hK15 => ?_
          refine sc_text [3, 3] ?_
          refine sr_pu rfl (fun _ => rd_move (ev_t rfl)) ?_
          refine sr_pu rfl (fun _ => rd_gt (ev_t rfl) ev_c) ?_
          refine sr_sub [(0, _, _), (2, _, _), (5, _, _), (120, _, _)] (sub_cons rfl (sub_cons rfl (sub_cons rfl (sub_cons rfl (sub_nil _))))) ?_
          refine sr_nil (hK15 _ _ ?_)
          refine sc_cond (ev_t rfl) (fun h5 => ?_) (fun h5 => ?_)
          · have hN : nextF s p ts cs = (p, ts, cs, 3) := by unfold nextF; rw [h1, h2, h3, h4, h5]; rfl
            have hs' := (hs.grow g).scn k1 k2 k3 k4
            have hb' := below_g g hs.base_le
            refine sc_seq fun K16 hK16 => ?_
            refine sc_text [3] ?_
            refine sr_pu rfl (fun _ => rd_assign ev_c) ?_
            refine sr_sub [(0, _, _), (2, _, _), (5, _, _)] (sub_cons rfl (sub_cons rfl (sub_cons rfl (sub_nil _)))) ?_
            refine sr_nil (hK16 _ _ ?_)
            refine sc_ret (t_ret1 rfl rfl ?_)
            rw [hN]; exact ⟨rfl, hs', hb'⟩
          · (try simp only [bsimp] at h5)
            refine sc_skip (hK14 _ _ ?_)
            refine sc_sub [(0, _, _), (2, _, _), (5, _, _)] (sub_cons rfl (sub_cons rfl (sub_cons rfl (sub_nil _)))) ?_
            refine sc_seq fun K17 hK17 => ?_
            refine sc_text [3] ?_
            refine sr_pu rfl (fun _ => rd_assign ev_c) ?_
            refine sr_nil (hK17 _ _ ?_)
            refine sc_seq fun K18 hK18 => ?_
            refine sc_seq fun K19 hK19 => ?_
            refine sc_draw [3, 3, 3, 0, 3, 3, 3, 0, 3, 3, 3, 0, 3, 3, 3, 1] [true, true, true, true, true, true, true, true, true, true, true, true, true, true, true, true] [0, 1, 3, 7, 0, 16, 48, 112, 0, 256, 768, 1792, 0, 7936, 16383, 32767] mix (by kernel_rfl) ?_
            have g := g.trans (G.drew _)
            refine sr_pu rfl (fun _ => rd_move (ev_t rfl)) ?_
            refine sr_pu rfl (fun _ => rd_nil (ev_t rfl)) ?_
            refine sr_pu rfl (fun _ => rd_field fo_scan_scanner_0 (ev_t rfl)) ?_
            refine sr_rd rfl (rd_load one_string (ev_t rfl) (fun _ => by first | exact (hs.grow g).B.at_ rfl)) ?_
            refine sr_pu rfl (fun _ => rd_move (ev_t rfl)) ?_
            refine sr_pu rfl (fun _ => rd_nil (ev_t rfl)) ?_
            refine sr_pu rfl (fun _ => rd_field fo_scan_scanner_1 (ev_t rfl)) ?_
            refine sr_rd rfl (rd_load one_int (ev_t rfl) (fun _ => by first | exact (hs.grow g).B.at_ rfl)) ?_
            refine sr_pu rfl (fun _ => rd_move (ev_t rfl)) ?_
            refine sr_pu rfl (fun _ => rd_nil (ev_t rfl)) ?_
            refine sr_pu rfl (fun _ => rd_field fo_scan_scanner_1 (ev_t rfl)) ?_
            refine sr_rd rfl (rd_load one_int (ev_t rfl) (fun _ => by first | exact (hs.grow g).B.at_ rfl)) ?_
            refine sr_pu rfl (fun _ => rd_move (ev_t rfl)) ?_
            refine sr_pu rfl (fun _ => rd_add (ev_t rfl) (ev_t rfl) (fun _ => by omega)) ?_
            refine sr_pu rfl (fun _ => rd_ssl str_string (ev_t rfl) (ev_t rfl) (ev_t rfl) (fun _ => by omega)) ?_
            refine sr_pure rfl (rc_call go_scan_Keyword ev_f (args_cons (ev_t rfl) (args_nil)) rfl) (keyword_ok _ _) (fun w136 g136 => ?_)
            have g := g.trans (g136)
            refine sr_sub [(0, _, _), (2, _, _), (5, _, _), (6, _, _), (136, _, _)] (sub_cons rfl (sub_cons rfl (sub_cons rfl (sub_cons rfl (sub_cons rfl (sub_nil _)))))) ?_
            refine sr_nil (hK19 _ _ ?_)
            refine sc_cond (ev_t rfl) (fun h6 => ?_) (fun h6 => ?_)
            · rw [e] at h6
              replace h6 : inB kws ((s.drop p).take (runN isAlnum (s.drop p))) = true := h6
              have hN : nextF s p ts cs = (p + runN isAlnum (s.drop p), ts ++ [⟨3, (s.drop p).take (runN isAlnum (s.drop p)), p⟩], cs, 0) := by unfold nextF; rw [h1, h2, h3, h4, h5, wordK, h6]; rfl
              refine sc_text [3] ?_
              refine sr_pu rfl (fun _ => rd_assign ev_c) ?_
              refine sr_sub [(0, _, _), (2, _, _), (5, _, _), (6, _, _)] (sub_cons rfl (sub_cons rfl (sub_cons rfl (sub_cons rfl (sub_nil _))))) ?_
              refine sr_nil (hK18 _ _ ?_)
              refine sc_text [3, 3, 3, 2] ?_
              refine sr_pu rfl (fun _ => rd_move (ev_t rfl)) ?_
              refine sr_pu rfl (fun _ => rd_move (ev_t rfl)) ?_
              refine sr_pu rfl (fun _ => rd_move (ev_t rfl)) ?_
              refine sr_call rfl (rc_call go_scan_scanner_put ev_f (args_cons (ev_t rfl) (args_cons (ev_t rfl) (args_cons (ev_t rfl) (args_nil)))) rfl) (put_ok base b s p ts cs _ _ _ ((hs.grow g).scn k1 k2 k3 k4) hn hf) ?_
              rintro v140 w140 ⟨rfl, hs', hb'⟩
              refine ⟨fun h => absurd h (by decide), ?_⟩
              have hb' := (below_g g hs.base_le).trans hb'
              refine sr_sub [(2, _, _)] (sub_cons rfl (sub_nil _)) ?_
              refine sr_nil (hK3 _ _ ?_)
              refine sc_seq fun K20 hK20 => ?_
              refine sc_text [3] ?_
              refine sr_pu rfl (fun _ => rd_assign ev_c) ?_
              refine sr_nil (hK20 _ _ ?_)
              refine sc_ret (t_ret1 rfl rfl ?_)
              rw [hN]; exact ⟨rfl, hs', hb'⟩
            · rw [e] at h6
              replace h6 : inB kws ((s.drop p).take (runN isAlnum (s.drop p))) = false := h6
              have hN : nextF s p ts cs = (p + runN isAlnum (s.drop p), ts ++ [⟨1, (s.drop p).take (runN isAlnum (s.drop p)), p⟩], cs, 0) := by unfold nextF; rw [h1, h2, h3, h4, h5, wordK, h6]; rfl
              refine sc_skip (hK18 _ _ ?_)
              refine sc_sub [(0, _, _), (2, _, _), (5, _, _), (6, _, _)] (sub_cons rfl (sub_cons rfl (sub_cons rfl (sub_cons rfl (sub_nil _))))) ?_
              refine sc_text [3, 3, 3, 2] ?_
              refine sr_pu rfl (fun _ => rd_move (ev_t rfl)) ?_
              refine sr_pu rfl (fun _ => rd_move (ev_t rfl)) ?_
              refine sr_pu rfl (fun _ => rd_move (ev_t rfl)) ?_
              refine sr_call rfl (rc_call go_scan_scanner_put ev_f (args_cons (ev_t rfl) (args_cons (ev_t rfl) (args_cons (ev_t rfl) (args_nil)))) rfl) (put_ok base b s p ts cs _ _ _ ((hs.grow g).scn k1 k2 k3 k4) hn hf) ?_
              rintro v140 w140 ⟨rfl, hs', hb'⟩
              refine ⟨fun h => absurd h (by decide), ?_⟩
              have hb' := (below_g g hs.base_le).trans hb'
              refine sr_sub [(2, _, _)] (sub_cons rfl (sub_nil _)) ?_
              refine sr_nil (hK3 _ _ ?_)
              refine sc_seq fun K21 hK21 => ?_
              refine sc_text [3] ?_
              refine sr_pu rfl (fun _ => rd_assign ev_c) ?_
              refine sr_nil (hK21 _ _ ?_)
              refine sc_ret (t_ret1 rfl rfl ?_)
              rw [hN]; exact ⟨rfl, hs', hb'⟩
        · replace h4 : letterB (cAt s p) = false := h4
          refine sc_seq fun K22 hK22 => ?_
          refine sc_text [3, 1, 3] ?_
          refine sr_pu rfl (fun _ => rd_move (ev_t rfl)) ?_
          refine sr_pure rfl (rc_call go_scan_digit ev_f (args_cons (ev_t rfl) (args_nil)) rfl) (digit_ok _ _) (fun w143 g143 => ?_)
          have g := g.trans (g143)
          refine sr_pu rfl (fun _ => rd_assign (ev_t rfl)) ?_
          refine sr_sub [(0, _, _), (2, _, _), (3, _, _), (141, _, _)] (sub_cons rfl (sub_cons rfl (sub_cons rfl (sub_cons rfl (sub_nil _))))) ?_
          refine sr_nil (hK22 _ _ ?_)
          refine sc_cond (ev_t rfl) (fun h7 => ?_) (fun h7 => ?_)
          · replace h7 : digitB (cAt s p) = true := h7
            have hn := runN_pos (q := digitB) hp h7
            have hf := runN_fit digitB hp
            have e : ((p : Int) + (runN digitB (s.drop p) : Nat)).toNat - (p : Int).toNat = runN digitB (s.drop p) := by omega
            refine sc_seq fun K23 hK23 => ?_
            refine sc_text [3, 1, 3] ?_
            refine sr_pu rfl (fun _ => rd_move (ev_t rfl)) ?_
            refine sr_pure rfl (rc_call go_scan_scanner_run ev_f (args_cons (ev_t rfl) (args_cons ev_f (args_nil))) rfl) (run_ok base b s p ts cs _ ((hs.grow g).scn k1 k2 k3 k4) _ digitB go_scan_digit digit_ok) (fun w145 g145 => ?_)
            have g := g.trans (g145)
            refine sr_pu rfl (fun _ => rd_assign (ev_t rfl)) ?_
            refine sr_sub [(0, _, _), (2, _, _), (3, _, _), (7, _, _)] (sub_cons rfl (sub_cons rfl (sub_cons rfl (sub_cons rfl (sub_nil _))))) ?_
            refine sr_nil (hK23 _ _ ?_)
            refine sc_seq fun K24 hK24 => ?_
            refine sc_seq fun K25 hK25 => ?_
            refine sc_draw [3, 3, 3, 3, 3, 3, 3, 3, 3, 3, 0, 3, 3, 3, 3, 3, 0, 3, 3, 3, 3, 3, 3, 0, 3, 3, 3, 0, 3, 3, 3, 1, 3, 3] [true, true, true, true, true, true, true, true, true, true, true, true, true, true, true, true, true, true, true, true, true, true, true, true, true, true, true, true, true, true, true, true, true, true] [0, 1, 3, 7, 15, 31, 63, 127, 255, 511, 1023, 127, 4095, 127, 8319, 24703, 57471, 123007, 262143, 524287, 1048575, 2097151, 4194303, 8388607, 1048575, 17825791, 51380223, 118489087, 1048575, 521142271, 1073741823, 2147483647, 4294967295, 8589934591] mix (by kernel_rfl) ?_
            have g := g.trans (G.drew _)
            refine sr_pu rfl (fun _ => rd_move (ev_t rfl)) ?_
            refine sr_pu rfl (fun _ => rd_eq (ev_t rfl) ev_c) ?_
            refine sr_pu rfl (fun _ => rd_move (ev_t rfl)) ?_
            refine sr_pug rfl rfl rfl (fun _ => rd_move (ev_t rfl)) ?_
            refine sr_pug rfl rfl rfl (fun _ => rd_gt (ev_u rfl id) ev_c) ?_
            refine sr_pu rfl (fun _ => rd_pick_and (ev_t rfl) (ev_u rfl id)) ?_
            refine sr_pu rfl (fun _ => rd_move (ev_t rfl)) ?_
            refine sr_pug rfl rfl rfl (fun _ => rd_move (ev_t rfl)) ?_
            refine sr_pug rfl rfl rfl (fun _ => rd_nil (ev_u rfl id)) ?_
            refine sr_pug rfl rfl rfl (fun _ => rd_field fo_scan_scanner_1 (ev_u rfl id)) ?_
            refine sr_rdg rfl rfl rfl (rd_load one_int (ev_u rfl id) (fun _ => by first | exact (hs.grow g).B.at_ rfl)) ?_
            refine sr_pug rfl rfl rfl (fun _ => rd_move (ev_t rfl)) ?_
            refine sr_pug rfl rfl rfl (fun _ => rd_add (ev_u rfl id) (ev_u rfl id) (fun _ => by omega)) ?_
            refine sr_pug rfl rfl rfl (fun _ => rd_move (ev_t rfl)) ?_
            refine sr_pug rfl rfl rfl (fun _ => rd_nil (ev_u rfl id)) ?_
            refine sr_pug rfl rfl rfl (fun _ => rd_field fo_scan_scanner_0 (ev_u rfl id)) ?_
            refine sr_rdg rfl rfl rfl (rd_load one_string (ev_u rfl id) (fun _ => by first | exact (hs.grow g).B.at_ rfl)) ?_
            refine sr_pug rfl rfl rfl (fun _ => rd_slen str_string (ev_u rfl id)) ?_
            refine sr_pug rfl rfl rfl (fun _ => rd_lt (ev_u rfl id) (ev_u rfl id)) ?_
            refine sr_pug rfl rfl rfl (fun _ => rd_move (ev_u rfl id)) ?_
            refine sr_pug rfl rfl rfl (fun _ => rd_move (ev_t rfl)) ?_
            refine sr_pug rfl rfl rfl (fun _ => rd_nil (ev_u rfl id)) ?_
            refine sr_pug rfl rfl rfl (fun _ => rd_field fo_scan_scanner_0 (ev_u rfl id)) ?_
            refine sr_rdg rfl rfl rfl (rd_load one_string (ev_u rfl id) (fun _ => by first | exact (hs.grow g).B.at_ rfl)) ?_
            refine sr_pug rfl rfl rfl (fun _ => rd_move (ev_t rfl)) ?_
            refine sr_pug rfl rfl rfl (fun _ => rd_nil (ev_u rfl id)) ?_
            refine sr_pug rfl rfl rfl (fun _ => rd_field fo_scan_scanner_1 (ev_u rfl id)) ?_
            refine sr_rdg rfl rfl rfl (rd_load one_int (ev_u rfl id) (fun _ => by first | exact (hs.grow g).B.at_ rfl)) ?_
            refine sr_pug rfl rfl rfl (fun _ => rd_move (ev_t rfl)) ?_
            refine sr_pug rfl rfl rfl (fun _ => rd_add (ev_u rfl id) (ev_u rfl id) (fun _ => by omega)) ?_
            refine sr_pug rfl rfl rfl (fun _ => rd_sidx str_string (ev_u rfl id) (ev_u rfl id) (fun hc => by have := of_decide_eq_true hc.2; omega)) ?_
            refine sr_pureg rfl rfl rfl (fun _ => (rc_call go_scan_letter ev_f (args_cons (ev_u rfl id) (args_nil)) rfl)) (fun hc => letter_ok _ _) (fun w177 g177 => ?_)
            have g := g.trans (g177)
            refine sr_pug rfl rfl rfl (fun _ => rd_pick_and (ev_u rfl id) (ev_u rfl id)) ?_
            refine sr_pu rfl (fun _ => rd_pick_or (ev_t rfl) (ev_u rfl id)) ?_
            refine sr_sub [(0, _, _), (2, _, _), (7, _, _), (179, _, _)] (sub_cons rfl (sub_cons rfl (sub_cons rfl (sub_cons rfl (sub_nil _))))) ?_
            refine sr_nil (hK25 _ _ ?_)
            refine sc_cond (ev_t rfl) (fun h8 => ?_) (fun h8 => ?_)
            · replace h8 : badD s p (runN digitB (s.drop p)) = true := h8
              have hN : nextF s p ts cs = (p, ts, cs, 4) := by unfold nextF; rw [h1, h2, h3, h4, h7, h8]; rfl
              have hs' := (hs.grow g).scn k1 k2 k3 k4
              have hb' := below_g g hs.base_le
              refine sc_seq fun K26 hK26 => ?_
              refine sc_text [3] ?_
              refine sr_pu rfl (fun _ => rd_assign ev_c) ?_
              refine sr_sub [(0, _, _), (2, _, _), (7, _, _)] (sub_cons rfl (sub_cons rfl (sub_cons rfl (sub_nil _)))) ?_
              refine sr_nil (hK26 _ _ ?_)
              refine sc_ret (t_ret1 rfl rfl ?_)
              rw [hN]; exact ⟨rfl, hs', hb'⟩
            · replace h8 : badD s p (runN digitB (s.drop p)) = false := h8
              obtain ⟨ev, he1, he2⟩ := hL.err
              have hdl : ((s.drop p).take (runN digitB (s.drop p))).length = runN digitB (s.drop p) := by rw [List.length_take, List.length_drop]; omega
              refine sc_skip (hK24 _ _ ?_)
              refine sc_sub [(0, _, _), (2, _, _), (7, _, _)] (sub_cons rfl (sub_cons rfl (sub_cons rfl (sub_nil _)))) ?_
              refine sc_seq fun K27 hK27 => ?_
              refine sc_seq fun K28 hK28 => ?_
              refine sc_draw [3, 3, 3, 0, 3, 3, 3, 0, 3, 3, 3, 0, 3, 3, 3, 1, 3, 3, 3, 3, 3] [true, true, true, true, true, true, true, true, true, true, true, true, true, true, true, true, true, true, true, true, true] [0, 1, 3, 7, 0, 16, 48, 112, 0, 256, 768, 1792, 0, 7936, 16383, 32767, 65535, 131071, 131071, 262143, 1048575] mix (by kernel_rfl) ?_
              have g := g.trans (G.drew _)
              refine sr_pu rfl (fun _ => rd_move (ev_t rfl)) ?_
              refine sr_pu rfl (fun _ => rd_nil (ev_t rfl)) ?_
              refine sr_pu rfl (fun _ => rd_field fo_scan_scanner_0 (ev_t rfl)) ?_
              refine sr_rd rfl (rd_load one_string (ev_t rfl) (fun _ => by first | exact (hs.grow g).B.at_ rfl)) ?_
              refine sr_pu rfl (fun _ => rd_move (ev_t rfl)) ?_
              refine sr_pu rfl (fun _ => rd_nil (ev_t rfl)) ?_
              refine sr_pu rfl (fun _ => rd_field fo_scan_scanner_1 (ev_t rfl)) ?_
              refine sr_rd rfl (rd_load one_int (ev_t rfl) (fun _ => by first | exact (hs.grow g).B.at_ rfl)) ?_
              refine sr_pu rfl (fun _ => rd_move (ev_t rfl)) ?_
              refine sr_pu rfl (fun _ => rd_nil (ev_t rfl)) ?_
              refine sr_pu rfl (fun _ => rd_field fo_scan_scanner_1 (ev_t rfl)) ?_
              refine sr_rd rfl (rd_load one_int (ev_t rfl) (fun _ => by first | exact (hs.grow g).B.at_ rfl)) ?_
              refine sr_pu rfl (fun _ => rd_move (ev_t rfl)) ?_
              refine sr_pu rfl (fun _ => rd_add (ev_t rfl) (ev_t rfl) (fun _ => by omega)) ?_
              refine sr_pu rfl (fun _ => rd_ssl str_string (ev_t rfl) (ev_t rfl) (ev_t rfl) (fun _ => by omega)) ?_
              refine sr_call rfl (rc_call go_strconv_ParseInt ev_f (args_cons (ev_t rfl) (args_cons ev_c (args_cons ev_c (args_nil)))) rfl) (parse_ok _ (by rw [e]; exact digits_allD s p) (by rw [e]; intro h0; have h0 := congrArg List.length h0; rw [show (List.take (runN digitB (s.drop p)) (List.drop (p : Int).toNat s)).length = runN digitB (s.drop p) from hdl] at h0; simp at h0; omega) (by rw [e]; show ((s.drop p).take (runN digitB (s.drop p))).length ≤ 20000; omega) _ ev (cell_grow g he1) he2) ?_
              rintro v196 w196 ⟨⟨x, er, rfl, her, hnil⟩, g196⟩
              refine ⟨fun _ => g196, ?_⟩
              have g := g.trans g196
              replace hnil : nilV er = decide (valN 0 ((s.drop p).take (runN digitB (s.drop p))) < 9223372036854775808) := by rw [e] at hnil; exact hnil
              refine sr_pu rfl (fun _ => rd_move (ev_t rfl)) ?_
              refine sr_pu rfl (fun _ => rd_extract (ev_t rfl) rfl) ?_
              refine sr_pu rfl (fun _ => rd_extract (ev_t rfl) rfl) ?_
              refine sr_pu rfl (fun _ => rd_assign (ev_t rfl)) ?_
              refine sr_pu rfl (fun _ => rd_assign (ev_t rfl)) ?_
              refine sr_sub [(0, _, _), (2, _, _), (7, _, _), (9, _, _)] (sub_cons rfl (sub_cons rfl (sub_cons rfl (sub_cons rfl (sub_nil _))))) ?_
              refine sr_nil (hK28 _ _ ?_)
              refine sc_seq fun K29 hK29 => ?_
              refine sc_text [3, 3] ?_
              refine sr_pu rfl (fun _ => rd_move (ev_t rfl)) ?_
              refine sr_pu rfl (fun _ => rd_ine if_error (ev_t rfl) her) ?_
              refine sr_sub [(0, _, _), (2, _, _), (7, _, _), (200, _, _)] (sub_cons rfl (sub_cons rfl (sub_cons rfl (sub_cons rfl (sub_nil _))))) ?_
              refine sr_nil (hK29 _ _ ?_)
              refine sc_cond (ev_t rfl) (fun h9 => ?_) (fun h9 => ?_)
              · have h9 : decide (valN 0 ((s.drop p).take (runN digitB (s.drop p))) < 9223372036854775808) = false := by replace h9 : (!nilV er) = true := h9; rw [hnil] at h9; simpa using h9
                have hN : nextF s p ts cs = (p, ts, cs, 4) := by unfold nextF; rw [h1, h2, h3, h4, h7, h8, h9]; rfl
                have hs' := (hs.grow g).scn k1 k2 k3 k4
                have hb' := below_g g hs.base_le
                refine sc_seq fun K30 hK30 => ?_
                refine sc_text [3] ?_
                refine sr_pu rfl (fun _ => rd_assign ev_c) ?_
                refine sr_sub [(0, _, _), (2, _, _), (7, _, _)] (sub_cons rfl (sub_cons rfl (sub_cons rfl (sub_nil _)))) ?_
                refine sr_nil (hK30 _ _ ?_)
                refine sc_ret (t_ret1 rfl rfl ?_)
                rw [hN]; exact ⟨rfl, hs', hb'⟩
              · have h9 : decide (valN 0 ((s.drop p).take (runN digitB (s.drop p))) < 9223372036854775808) = true := by replace h9 : (!nilV er) = false := h9; rw [hnil] at h9; simpa using h9
                have hN : nextF s p ts cs = (p + runN digitB (s.drop p), ts ++ [⟨2, (s.drop p).take (runN digitB (s.drop p)), p⟩], cs, 0) := by unfold nextF; rw [h1, h2, h3, h4, h7, h8, h9]; rfl
                refine sc_skip (hK27 _ _ ?_)
                refine sc_sub [(0, _, _), (2, _, _), (7, _, _)] (sub_cons rfl (sub_cons rfl (sub_cons rfl (sub_nil _)))) ?_
                refine sc_text [3, 3, 2] ?_
                refine sr_pu rfl (fun _ => rd_move (ev_t rfl)) ?_
                refine sr_pu rfl (fun _ => rd_move (ev_t rfl)) ?_
                refine sr_call rfl (rc_call go_scan_scanner_put ev_f (args_cons (ev_t rfl) (args_cons ev_c (args_cons (ev_t rfl) (args_nil)))) rfl) (put_ok base b s p ts cs _ _ _ ((hs.grow g).scn k1 k2 k3 k4) hn hf) ?_
                rintro v203 w203 ⟨rfl, hs', hb'⟩
                refine ⟨fun h => absurd h (by decide), ?_⟩
                have hb' := (below_g g hs.base_le).trans hb'
                refine sr_sub [(2, _, _)] (sub_cons rfl (sub_nil _)) ?_
                refine sr_nil (hK3 _ _ ?_)
                refine sc_seq fun K31 hK31 => ?_
                refine sc_text [3] ?_
                refine sr_pu rfl (fun _ => rd_assign ev_c) ?_
                refine sr_nil (hK31 _ _ ?_)
                refine sc_ret (t_ret1 rfl rfl ?_)
                rw [hN]; exact ⟨rfl, hs', hb'⟩
          · replace h7 : digitB (cAt s p) = false := h7
            refine sc_seq fun K32 hK32 => ?_
            refine sc_seq fun K33 hK33 => ?_
            refine sc_text [0, 3] ?_
            refine sr_rd rfl (rd_loads agg_27_string ev_g rfl (fun _ => (hL.grow g).ops)) ?_
            refine sr_pu rfl (fun _ => rd_move ev_c) ?_
            refine sr_sub [(0, _, _), (2, _, _), (21, _, _), (22, _, _)] (sub_cons rfl (sub_cons rfl (sub_cons rfl (sub_cons rfl (sub_nil _))))) ?_
            refine sr_nil (hK33 _ _ ?_)
            refine sc_block ?_
            refine sc_loop (fun (i : Nat) u => i ≤ 27 ∧ (∀ j < i, preB (opsL.getD j []) (s.drop p) = false) ∧ G w u) (fun i => [(0, True, .pointer (some ⟨b, 0, none⟩)), (21, True, .agg (opsL.map Str).toArray), (22, True, .int .i64 i)]) (fun i => 27 - i) 0 ⟨by omega, by intro j hj; omega, g⟩ (sub_cons rfl (sub_cons rfl (sub_cons rfl (sub_nil _)))) ?_
            rintro i u ⟨hi, hpre, g⟩
            refine sc_seq fun K34 hK34 => ?_
            refine sc_text [3] ?_
            refine sr_pu rfl (fun _ => rd_lt (ev_t rfl) ev_c) ?_
            refine sr_nil (hK34 _ _ ?_)
            refine sc_seq fun K35 hK35 => ?_
            refine sc_cond (ev_t rfl) (fun h10 => ?_) (fun h10 => ?_)
            · simp only [decide_eq_true_eq] at h10
              have hi27 : i < 27 := by omega
              refine sc_skip (hK35 _ _ ?_)
              refine sc_sub [(0, _, _), (21, _, _), (22, _, _)] (sub_cons rfl (sub_cons rfl (sub_cons rfl (sub_nil _)))) ?_
              refine sc_seq fun K36 hK36 => ?_
              refine sc_block ?_
              refine sc_seq fun K37 hK37 => ?_
              refine sc_text [3, 3] ?_
              refine sr_pu rfl (fun _ => rd_aidx ar_27_string (ev_t rfl) (ev_t rfl) (fun _ => by omega) (fun _ => opsL_at hi27)) ?_
              refine sr_pu rfl (fun _ => rd_assign (ev_t rfl)) ?_
              refine sr_sub [(0, _, _), (11, _, _), (21, _, _), (22, _, _)] (sub_cons rfl (sub_cons rfl (sub_cons rfl (sub_cons rfl (sub_nil _))))) ?_
              refine sr_nil (hK37 _ _ ?_)
              refine sc_seq fun K38 hK38 => ?_
              refine sc_draw [3, 3, 3, 0, 3, 3, 3, 0, 3, 3, 1] [true, true, true, true, true, true, true, true, true, true, true] [0, 1, 3, 7, 0, 16, 48, 112, 255, 0, 1023] mix (by kernel_rfl) ?_
              have g := g.trans (G.drew _)
              refine sr_pu rfl (fun _ => rd_move (ev_t rfl)) ?_
              refine sr_pu rfl (fun _ => rd_nil (ev_t rfl)) ?_
              refine sr_pu rfl (fun _ => rd_field fo_scan_scanner_0 (ev_t rfl)) ?_
              refine sr_rd rfl (rd_load one_string (ev_t rfl) (fun _ => by first | exact (hs.grow g).B.at_ rfl)) ?_
              refine sr_pu rfl (fun _ => rd_move (ev_t rfl)) ?_
              refine sr_pu rfl (fun _ => rd_nil (ev_t rfl)) ?_
              refine sr_pu rfl (fun _ => rd_field fo_scan_scanner_1 (ev_t rfl)) ?_
              refine sr_rd rfl (rd_load one_int (ev_t rfl) (fun _ => by first | exact (hs.grow g).B.at_ rfl)) ?_
              refine sr_pu rfl (fun _ => rd_ssl_from str_string (ev_t rfl) (ev_t rfl) (fun _ => by omega)) ?_
              refine sr_pu rfl (fun _ => rd_move (ev_t rfl)) ?_
              refine sr_pure rfl (rc_call go_strings_HasPrefix ev_f (args_cons (ev_t rfl) (args_cons (ev_t rfl) (args_nil))) rfl) (shasprefix_ok _ _ _) (fun w35 g35 => ?_)
              have g := g.trans (g35)
              refine sr_sub [(0, _, _), (11, _, _), (21, _, _), (22, _, _), (35, _, _)] (sub_cons rfl (sub_cons rfl (sub_cons rfl (sub_cons rfl (sub_cons rfl (sub_nil _)))))) ?_
              refine sr_nil (hK38 _ _ ?_)
              refine sc_cond (ev_t rfl) (fun h11 => ?_) (fun h11 => ?_)
              · replace h11 : preB (opsL.getD i []) (s.drop p) = true := h11
                have h0 := opLen_some hi27 hpre h11
                have hn := opsL_pos i hi27
                have hf : p + (opsL.getD i []).length ≤ s.length := by have := (preB_len h11).1; rw [List.length_drop] at this; omega
                have hN : nextF s p ts cs = (p + (opsL.getD i []).length, ts ++ [⟨4, (s.drop p).take (opsL.getD i []).length, p⟩], cs, 0) := by
                  unfold nextF; rw [h1, h2, h3, h4, h7, h0, show Nat.beq (opsL.getD i []).length 0 = false by rw [Bool.eq_false_iff]; intro h; have := Nat.eq_of_beq_eq_true h; omega]; rfl
                refine sc_seq fun K39 hK39 => ?_
                refine sc_text [3, 3, 3, 2] ?_
                refine sr_pu rfl (fun _ => rd_move (ev_t rfl)) ?_
                refine sr_pu rfl (fun _ => rd_move (ev_t rfl)) ?_
                refine sr_pu rfl (fun _ => rd_slen str_string (ev_t rfl)) ?_
                refine sr_call rfl (rc_call go_scan_scanner_put ev_f (args_cons (ev_t rfl) (args_cons ev_c (args_cons (ev_t rfl) (args_nil)))) rfl) (put_ok base b s p ts cs _ _ _ ((hs.grow g).scn k1 k2 k3 k4) hn hf) ?_
                rintro v39 w39 ⟨rfl, hs', hb'⟩
                refine ⟨fun h => absurd h (by decide), ?_⟩
                have hb' := (below_g g hs.base_le).trans hb'
                refine sr_sub [(0, _, _), (21, _, _), (22, _, _)] (sub_cons rfl (sub_cons rfl (sub_cons rfl (sub_nil _)))) ?_
                refine sr_nil (hK39 _ _ ?_)
                refine sc_seq fun K40 hK40 => ?_
                refine sc_text [3] ?_
                refine sr_pu rfl (fun _ => rd_assign ev_c) ?_
                refine sr_nil (hK40 _ _ ?_)
                refine sc_sub [(0, _, _), (2, _, _), (21, _, _), (22, _, _)] (sub_cons rfl (sub_cons rfl (sub_cons rfl (sub_cons rfl (sub_nil _))))) ?_
                refine sc_ret (t_ret1 rfl rfl ?_)
                rw [hN]; exact ⟨rfl, hs', hb'⟩
              · (try simp only [bsimp] at h11)
                refine sc_skip (hK36 _ _ ?_)
                refine sc_sub [(0, _, _), (21, _, _), (22, _, _)] (sub_cons rfl (sub_cons rfl (sub_cons rfl (sub_nil _)))) ?_
                refine sc_text [3, 3] ?_
                refine sr_pu rfl (fun _ => rd_add (ev_t rfl) ev_c (fun _ => by omega)) ?_
                refine sr_pu rfl (fun _ => rd_move (ev_t rfl)) ?_
                refine sr_sub [(0, _, _), (21, _, _), (22, _, _)] (sub_cons rfl (sub_cons rfl (sub_cons rfl (sub_nil _)))) ?_
                refine sr_nil (fun a ha => ?_)
                exact ⟨i + 1, ha, ⟨by omega, by
                  intro j hj
                  by_cases e : j = i
                  · rw [e]; exact h11
                  · exact hpre j (by omega), g⟩, by omega⟩
            · simp only [decide_eq_false_iff_not] at h10
              have hi27 : i = 27 := by omega
              subst hi27
              have h0 := opLen_none hpre
              have hN : nextF s p ts cs = (p, ts, cs, 4) := by unfold nextF; rw [h1, h2, h3, h4, h7, h0]; rfl
              have hs' := (hs.grow g).scn k1 k2 k3 k4
              have hb' := below_g g hs.base_le
              refine sc_exit rfl (hK32 _ _ ?_)
              refine sc_sub [] (sub_nil _) ?_
              refine sc_seq fun K41 hK41 => ?_
              refine sc_text [3] ?_
              refine sr_pu rfl (fun _ => rd_assign ev_c) ?_
              refine sr_nil (hK41 _ _ ?_)
              refine sc_ret (t_ret1 rfl rfl ?_)
              rw [hN]; exact ⟨rfl, hs', hb'⟩
end Go.Rk
