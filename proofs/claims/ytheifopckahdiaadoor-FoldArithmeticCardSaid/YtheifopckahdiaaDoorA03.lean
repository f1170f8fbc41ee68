/- Merged texts of one road: ScanC, ScanD, ScanP, ScanE, ScanF, Tree, Name, RowF, RefA, Own, RefB, Rtd, RefC, Rng, Open. Conditions: each text's own. -/
import Derived.Test.YtheifopckahdiaaDoorA02
import Derived.Shelf.Strconv.ParseIntPublic10
import Derived.KernelRfl
import Derived.Test.YtheifopckahdiaaDoorRows
import Derived.Test.YtheifopckahdiaaDoorCards
import Derived.Deep.Slices
import Derived.Carry
set_option linter.unusedSimpArgs false
set_option linter.unusedVariables false
namespace Go.Rk
open Go Go.RowKit
/-- The scanner's state with its rows' headers. -/
structure SA (base b : Nat) (s : List UInt8) (p : Nat) (ts cs : List Tok) (ta : Option Addr) (tc : Nat) (ca : Option Addr) (cc : Nat) (w : World) : Prop where
  B : Blk w b ty_scan_scanner [Str s, .int .i64 p, .slice ta ts.length tc, .slice ca cs.length cc]
  hb : base ≤ b
  ht : w.ownsRow base ty_api_Token 3 (.slice ta ts.length tc) ts.length (toksCells ts)
  hc : w.ownsRow base ty_api_Token 3 (.slice ca cs.length cc) cs.length (toksCells cs)
  n1 : (Value.slice ta ts.length tc).ownBlock ≠ some b
  n2 : (Value.slice ca cs.length cc).ownBlock ≠ some b
  n3 : ∀ k, (Value.slice ta ts.length tc).ownBlock = some k → (Value.slice ca cs.length cc).ownBlock ≠ some k
theorem SA.grow {base b : Nat} {s : List UInt8} {p : Nat} {ts cs : List Tok} {ta : Option Addr} {tc : Nat} {ca : Option Addr} {cc : Nat} {w w1 : World} (h : SA base b s p ts cs ta tc ca cc w) (g : G w w1) : SA base b s p ts cs ta tc ca cc w1 :=
  { h with B := h.B.grow g, ht := own_grow h.ht g, hc := own_grow h.hc g }
theorem SA.scn {base b : Nat} {s : List UInt8} {p : Nat} {ts cs : List Tok} {ta : Option Addr} {tc : Nat} {ca : Option Addr} {cc : Nat} {w : World} (h : SA base b s p ts cs ta tc ca cc w) (k1 : ts.length ≤ p) (k2 : cs.length ≤ p) (k3 : p ≤ s.length) (k4 : s.length ≤ 20000) : Scn base b s p ts cs w :=
  ⟨ta, tc, ca, cc, h.B, h.hb, h.ht, h.hc, h.n1, h.n2, h.n3, k1, k2, k3, k4⟩
theorem Scn.sa {base b : Nat} {s : List UInt8} {p : Nat} {ts cs : List Tok} {w : World} (h : Scn base b s p ts cs w) : ∃ ta tc ca cc, SA base b s p ts cs ta tc ca cc w ∧ ts.length ≤ p ∧ cs.length ≤ p ∧ p ≤ s.length ∧ s.length ≤ 20000 := by
  obtain ⟨ta, tc, ca, cc, hB, hb0, ht, hc, n1, n2, n3, k1, k2, k3, k4⟩ := h
  exact ⟨ta, tc, ca, cc, ⟨hB, hb0, ht, hc, n1, n2, n3⟩, k1, k2, k3, k4⟩
theorem SA.base_le {base b : Nat} {s : List UInt8} {p : Nat} {ts cs : List Tok} {ta : Option Addr} {tc : Nat} {ca : Option Addr} {cc : Nat} {w : World} (h : SA base b s p ts cs ta tc ca cc w) : base ≤ w.heap.size := by have := h.hb; have := h.B.lt; omega
theorem SA.setp {base b : Nat} {s : List UInt8} {p q : Nat} {ts cs : List Tok} {ta : Option Addr} {tc : Nat} {ca : Option Addr} {cc : Nat} {w w1 : World} (h : SA base b s p ts cs ta tc ca cc w) (hg : w.grownBy w1 (some b))
    (hB : Blk w1 b ty_scan_scanner [Str s, .int .i64 q, .slice ta ts.length tc, .slice ca cs.length cc]) : SA base b s q ts cs ta tc ca cc w1 :=
  { h with B := hB, ht := own_keep h.ht hg (.inr h.n1), hc := own_keep h.hc hg (.inr h.n2) }
theorem below_go {base b : Nat} {a wk w1 w2 : World} (hb : Below base a wk) (g : G wk w1) (hg : w1.grownBy w2 (some b)) (hz : base ≤ wk.heap.size) (h : base ≤ b) : Below base a w2 := by
  have := g.size
  exact below_only (hb.trans (below_g g hz)) hg (by omega) (fun k hk => by injection hk with hk; omega)
theorem Scn.grow {base b : Nat} {s : List UInt8} {p : Nat} {ts cs : List Tok} {w w1 : World} (h : Scn base b s p ts cs w) (g : G w w1) : Scn base b s p ts cs w1 := by
  obtain ⟨ta, tc, ca, cc, h, k1, k2, k3, k4⟩ := h.sa
  exact (h.grow g).scn k1 k2 k3 k4
/-- A token is appended to the tokens, and stored. -/
theorem SA.putT {base b : Nat} {s : List UInt8} {p : Nat} {ts cs : List Tok} {ta : Option Addr} {tc : Nat} {ca : Option Addr} {cc : Nat} {w w1 w2 : World} {ta' : Option Addr} {tc' : Nat} {t : Tok} (h : SA base b s p ts cs ta tc ca cc w)
    (h1 : w1.ownsRow base ty_api_Token 3 (.slice ta' (ts.length + 1) tc') (ts.length + 1) (toksCells ts ++ tokCells t)) (hg : w.grownBy w1 (Value.slice ta ts.length tc).ownBlock)
    (hat : (Value.slice ta' (ts.length + 1) tc').ownBlock = (Value.slice ta ts.length tc).ownBlock ∨ (Value.slice ta' (ts.length + 1) tc').ownBlock = some w.heap.size) (hg2 : w1.grownBy w2 (some b))
    (hB : Blk w2 b ty_scan_scanner [Str s, .int .i64 p, .slice ta' (ts.length + 1) tc', .slice ca cs.length cc]) : SA base b s p (ts ++ [t]) cs ta' tc' ca cc w2 := by
  have n1 := apart_blk h.B.lt h.n1 hat
  have hl : (ts ++ [t]).length = ts.length + 1 := by simp
  have hc := apart_row h.hc h.n3 hg
  refine ⟨by rw [hl]; exact hB, h.hb, ?_, own_keep hc hg2 (.inr h.n2), by rw [hl]; exact n1, h.n2, ?_⟩
  · rw [hl, toksCells_snoc]; exact own_keep h1 hg2 (.inr n1)
  · rw [hl]; exact apart_append h.hc h.n3 hat
/-- A comment is appended to the comments, and stored. -/
theorem SA.putC {base b : Nat} {s : List UInt8} {p : Nat} {ts cs : List Tok} {ta : Option Addr} {tc : Nat} {ca : Option Addr} {cc : Nat} {w w1 w2 : World} {ca' : Option Addr} {cc' : Nat} {t : Tok} (h : SA base b s p ts cs ta tc ca cc w)
    (h1 : w1.ownsRow base ty_api_Token 3 (.slice ca' (cs.length + 1) cc') (cs.length + 1) (toksCells cs ++ tokCells t)) (hg : w.grownBy w1 (Value.slice ca cs.length cc).ownBlock)
    (hat : (Value.slice ca' (cs.length + 1) cc').ownBlock = (Value.slice ca cs.length cc).ownBlock ∨ (Value.slice ca' (cs.length + 1) cc').ownBlock = some w.heap.size) (hg2 : w1.grownBy w2 (some b))
    (hB : Blk w2 b ty_scan_scanner [Str s, .int .i64 p, .slice ta ts.length tc, .slice ca' (cs.length + 1) cc']) : SA base b s p ts (cs ++ [t]) ta tc ca' cc' w2 := by
  have n2 := apart_blk h.B.lt h.n2 hat
  have hl : (cs ++ [t]).length = cs.length + 1 := by simp
  have n3' : ∀ k, (Value.slice ca cs.length cc).ownBlock = some k → (Value.slice ta ts.length tc).ownBlock ≠ some k := fun k hk he => h.n3 k he hk
  have ht := apart_row h.ht n3' hg
  refine ⟨by rw [hl]; exact hB, h.hb, own_keep ht hg2 (.inr h.n1), ?_, h.n1, by rw [hl]; exact n2, ?_⟩
  · rw [hl, toksCells_snoc]; exact own_keep h1 hg2 (.inr n2)
  · rw [hl]; exact fun k hk he => apart_append h.ht n3' hat k he hk
def endsT (t : Tok) : Bool := (decide (t.kind = 1) || decide (t.kind = 2)) || inB endw t.text
def nlTs (p : Nat) (ts : List Tok) : List Tok := match ts.getLast? with
  | some t => if endsT t = true then ts ++ [⟨4, [59], p⟩] else ts
  | none => ts
theorem row_last {w : World} {b : Nat} {ts0 : List Tok} {t : Tok} (h : RowAt w b 0 (toksCells (ts0 ++ [t]))) : RowAt w b (0 + (((ts0 ++ [t]).length : Nat) - 1 : Int).toNat * 3) (tokCells t) := by
  have e : (((ts0 ++ [t]).length : Nat) - 1 : Int).toNat = ts0.length := by simp
  have k := h.part (ts0.length * 3) 3
  rw [e]
  have e2 : ((toksCells (ts0 ++ [t])).drop (ts0.length * 3)).take 3 = tokCells t := by
    rw [toksCells_snoc, List.drop_append_of_le_length (by rw [toksCells_length]; exact Nat.le_refl _), List.drop_of_length_le (by rw [toksCells_length]; exact Nat.le_refl _)]
    rfl
  rw [e2] at k; exact k
theorem newline_ok (base b : Nat) (s : List UInt8) (p : Nat) (ts cs : List Tok) (w : World) (hs : Scn base b s p ts cs w) (h2 : p < s.length) :
    Ret PP fn_scan_scanner_newline #[.pointer (some ⟨b, 0, none⟩)] w fun v w' => v = .tuple #[] ∧ Scn base b s (p + 1) (nlTs p ts) cs w' ∧ Below base w w' := by
  obtain ⟨ta, tc, ca, cc, hs, k1, k2, k3, k4⟩ := hs.sa
  have g := G.refl w
  have hb : Below base w w := Below.refl _ _
  refine ret_of_sc (m := 53) func_scan_scanner_newline rfl rfl [(0, True, _)] (sub_cons rfl (sub_nil _)) ?_
  refine sc_seq fun K1 hK1 => ?_
  refine sc_seq fun K2 hK2 => ?_
  refine sc_text [3, 3, 3, 0, 3, 3] ?_
  refine sr_pu rfl (fun _ => rd_move (ev_t rfl)) ?_
  refine sr_pu rfl (fun _ => rd_nil (ev_t rfl)) ?_
  refine sr_pu rfl (fun _ => rd_field fo_scan_scanner_2 (ev_t rfl)) ?_
  refine sr_rd rfl (rd_load one_sl_api_Token (ev_t rfl) (fun _ => by first | exact (hs.grow g).B.at_ rfl)) ?_
  refine sr_pu rfl (fun _ => rd_len el_sl_api_Token (ev_t rfl)) ?_
  refine sr_pu rfl (fun _ => rd_assign (ev_t rfl)) ?_
  refine sr_sub [(0, _, _), (2, _, _)] (sub_cons rfl (sub_cons rfl (sub_nil _))) ?_
  refine sr_nil (hK2 _ _ ?_)
  refine sc_seq fun K3 hK3 => ?_
  refine sc_text [3, 3] ?_
  refine sr_pu rfl (fun _ => rd_move (ev_t rfl)) ?_
  refine sr_pu rfl (fun _ => rd_gt (ev_t rfl) ev_c) ?_
  refine sr_sub [(0, _, _), (2, _, _), (10, _, _)] (sub_cons rfl (sub_cons rfl (sub_cons rfl (sub_nil _)))) ?_
  refine sr_nil (hK3 _ _ ?_)
  refine sc_cond (ev_t rfl) (fun h1 => ?_) (fun h1 => ?_)
  · have hp : 0 < ts.length := by simp only [decide_eq_true_eq] at h1; omega
    obtain ⟨ts0, t, ets⟩ : ∃ ts0 t, ts = ts0 ++ [t] := by
      rcases List.eq_nil_or_concat ts with e | ⟨l, x, e⟩
      · rw [e] at hp; cases hp
      · exact ⟨l, x, by simpa using e⟩
    subst ets
    obtain ⟨bt, ct, ev, _, hrow, _⟩ := own_pos hs.ht hp
    injection ev with e1 e2 e3
    subst e1
    have hrow' := row_last hrow
    have hne : nlTs p (ts0 ++ [t]) = if endsT t = true then (ts0 ++ [t]) ++ [⟨4, [59], p⟩] else ts0 ++ [t] := by simp [nlTs]
    refine sc_seq fun K4 hK4 => ?_
    refine sc_text [3, 3, 3, 0, 3, 3, 3, 0, 1, 2] ?_
    refine sr_pu rfl (fun _ => rd_move (ev_t rfl)) ?_
    refine sr_pu rfl (fun _ => rd_nil (ev_t rfl)) ?_
    refine sr_pu rfl (fun _ => rd_field fo_scan_scanner_2 (ev_t rfl)) ?_
    refine sr_rd rfl (rd_load one_sl_api_Token (ev_t rfl) (fun _ => by first | exact (hs.grow g).B.at_ rfl)) ?_
    refine sr_pu rfl (fun _ => rd_move (ev_t rfl)) ?_
    refine sr_pu rfl (fun _ => rd_sub (ev_t rfl) ev_c (fun _ => by omega)) ?_
    refine sr_pu rfl (fun _ => rd_idx el_sl_api_Token (ev_t rfl) (ev_t rfl) (fun _ => by omega)) ?_
    refine sr_rd rfl (rd_loads agg_api_Token (ev_t rfl) rfl (fun _ => hrow')) ?_
    refine sr_alloc rfl ze_api_Token rfl ?_
    intro b3 w3 N3
    have l3 := N3.ge g
    have g := g.trans (N3.g)
    have B3 := N3.blk
    refine sr_store_all rfl sz_api_Token (ev_t rfl) (ev_t rfl) rfl rfl B3 rfl rfl ?_
    intro wS1 hgS1 hzS1
    clear B3
    intro B3
    have g := g_only g hgS1 (by intro k hk; injection hk with hk; omega)
    refine sr_sub [(0, _, _), (3, _, _)] (sub_cons rfl (sub_cons rfl (sub_nil _))) ?_
    refine sr_nil (hK4 _ _ ?_)
    refine sc_seq fun K5 hK5 => ?_
    refine sc_text [3, 0, 3, 3, 3, 0, 3, 3, 3, 3, 0, 1, 3] ?_
    refine sr_pu rfl (fun _ => rd_field fo_api_Token_0 (ev_t rfl)) ?_
    refine sr_rd rfl (rd_load one_int (ev_t rfl) (fun _ => B3.at_ rfl)) ?_
    refine sr_pu rfl (fun _ => rd_eq (ev_t rfl) ev_c) ?_
    refine sr_pu rfl (fun _ => rd_move (ev_t rfl)) ?_
    refine sr_pug rfl rfl rfl (fun _ => rd_field fo_api_Token_0 (ev_t rfl)) ?_
    refine sr_rdg rfl rfl rfl (rd_load one_int (ev_u rfl id) (fun _ => B3.at_ rfl)) ?_
    refine sr_pug rfl rfl rfl (fun _ => rd_eq (ev_u rfl id) ev_c) ?_
    refine sr_pu rfl (fun _ => rd_pick_or (ev_t rfl) (ev_u rfl id)) ?_
    refine sr_pu rfl (fun _ => rd_move (ev_t rfl)) ?_
    refine sr_pug rfl rfl rfl (fun _ => rd_field fo_api_Token_1 (ev_t rfl)) ?_
    refine sr_rdg rfl rfl rfl (rd_load one_string (ev_u rfl id) (fun _ => B3.at_ rfl)) ?_
    refine sr_pureg rfl rfl rfl (fun _ => (rc_call go_scan_ending ev_f (args_cons (ev_u rfl id) (args_nil)) rfl)) (fun hc => ending_ok _ _) (fun w30 g30 => ?_)
    have g := g.trans (g30)
    replace B3 := B3.grow (g30)
    refine sr_pu rfl (fun _ => rd_pick_or (ev_t rfl) (ev_u rfl id)) ?_
    refine sr_sub [(0, _, _), (31, _, _)] (sub_cons rfl (sub_cons rfl (sub_nil _))) ?_
    refine sr_nil (hK5 _ _ ?_)
    refine sc_cond (ev_t rfl) (fun h2 => ?_) (fun h2 => ?_)
    · rw [if_pos (show endsT t = true from h2)] at hne
      have hl : (nlTs p (ts0 ++ [t])).length ≤ p + 1 := by rw [hne, List.length_append]; exact Nat.succ_le_succ k1
      refine sc_draw [3, 3, 3, 3, 0, 3, 3, 3, 0, 3, 1, 2, 3, 3, 2] [true, true, true, true, true, true, true, true, true, true, true, true, true, true, true] [0, 0, 2, 6, 14, 0, 32, 96, 224, 480, 992, 2046, 4095, 8191, 16383] mix (by kernel_rfl) ?_
      have g := g.trans (G.drew _)
      replace B3 := B3.grow (G.drew _)
      refine sr_pu rfl (fun _ => rd_move (ev_t rfl)) ?_
      refine sr_pu rfl (fun _ => rd_move (ev_t rfl)) ?_
      refine sr_pu rfl (fun _ => rd_nil (ev_t rfl)) ?_
      refine sr_pu rfl (fun _ => rd_field fo_scan_scanner_2 (ev_t rfl)) ?_
      refine sr_rd rfl (rd_load one_sl_api_Token (ev_t rfl) (fun _ => by first | exact (hs.grow g).B.at_ rfl | exact B3.at_ rfl | exact B3.row)) ?_
      refine sr_pu rfl (fun _ => rd_move (ev_t rfl)) ?_
      refine sr_pu rfl (fun _ => rd_nil (ev_t rfl)) ?_
      refine sr_pu rfl (fun _ => rd_field fo_scan_scanner_1 (ev_t rfl)) ?_
      refine sr_rd rfl (rd_load one_int (ev_t rfl) (fun _ => by first | exact (hs.grow g).B.at_ rfl | exact B3.at_ rfl | exact B3.row)) ?_
      refine sr_pu rfl (fun _ => rd_build [_, _, _] ze_api_Token rfl pl_api_Token (parts_cons ev_c (parts_cons ev_c (parts_cons (ev_t rfl) (parts_nil)))) rfl) ?_
      refine sr_buildSlice [_, _, _] rfl el_sl_api_Token ze_api_Token (parts_cons (ev_t rfl) (parts_nil)) rfl rfl ?_
      intro b42 w42 N42
      have x42_3 := N42.ne B3
      have l42 := N42.ge g
      have g := g.trans (N42.g)
      replace B3 := B3.grow (N42.g)
      have B42 := N42.blk
      have hb := hb.trans (below_g g hs.base_le)
      have hs := hs.grow g
      have hz0 := hs.base_le
      refine sr_append rfl el_sl_api_Token ze_api_Token rfl (by decide) (ev_t rfl) hs.ht (ev_t rfl) rfl N42.blk.row rfl (by simp only [maxLen]; omega) (by omega) (by omega) ?_
      intro ta' tc' w43 ht' hg43 hat
      have hB := hs.B.keep hg43 (Ne.symm hs.n1)
      have hz := hg43.size
      refine sr_pu rfl (fun _ => rd_nil (ev_t rfl)) ?_
      refine sr_pu rfl (fun _ => rd_field fo_scan_scanner_2 (ev_t rfl)) ?_
      refine sr_store rfl sz_sl_api_Token (ev_t rfl) (ev_t rfl) rfl rfl hB rfl rfl ?_
      intro w44 hg44 hz44 hB
      have hb := below_only (below_only hb hg43 hs.base_le (fun k hk => (hs.ht.lt k hk).1)) hg44 (by have := hs.base_le; omega) (fun k hk => by injection hk with hk; have := hs.hb; omega)
      have hs := hs.putT (t := ⟨4, [59], p⟩) ht' hg43 hat hg44 hB
      have g := G.refl w44
      refine sr_sub [(0, _, _)] (sub_cons rfl (sub_nil _)) ?_
      refine sr_nil (hK1 _ _ ?_)
      refine sc_text [3, 3, 3, 0, 3, 3, 3, 2] ?_
      refine sr_pu rfl (fun _ => rd_move (ev_t rfl)) ?_
      refine sr_pu rfl (fun _ => rd_nil (ev_t rfl)) ?_
      refine sr_pu rfl (fun _ => rd_field fo_scan_scanner_1 (ev_t rfl)) ?_
      refine sr_rd rfl (rd_load one_int (ev_t rfl) (fun _ => by first | exact (hs.grow g).B.at_ rfl | exact B3.at_ rfl | exact B3.row | exact B42.at_ rfl | exact B42.row)) ?_
      refine sr_pu rfl (fun _ => rd_add (ev_t rfl) ev_c (fun _ => by omega)) ?_
      refine sr_pu rfl (fun _ => rd_nil (ev_t rfl)) ?_
      refine sr_pu rfl (fun _ => rd_field fo_scan_scanner_1 (ev_t rfl)) ?_
      refine sr_store rfl sz_int (ev_t rfl) (ev_t rfl) rfl rfl (hs.grow g).B rfl rfl ?_
      intro w52 hg52 hz52 hB
      have hb := below_go hb g hg52 hs.base_le hs.hb
      have hs := (hs.grow g).setp (q := p + 1) hg52 hB
      refine sr_sub [] (sub_nil _) ?_
      refine sr_nil (t_end0 rfl ?_)
      refine ⟨rfl, ?_, hb⟩
      rw [hne] at hl ⊢
      exact hs.scn hl (by omega) (by omega) k4
    rw [if_neg (by intro h; rw [endsT, h2] at h; cases h)] at hne
    have hl : (nlTs p (ts0 ++ [t])).length ≤ p + 1 := by rw [hne]; omega
    refine sc_skip (hK1 _ _ ?_)
    refine sc_sub [(0, _, _)] (sub_cons rfl (sub_nil _)) ?_
    refine sc_text [3, 3, 3, 0, 3, 3, 3, 2] ?_
    refine sr_pu rfl (fun _ => rd_move (ev_t rfl)) ?_
    refine sr_pu rfl (fun _ => rd_nil (ev_t rfl)) ?_
    refine sr_pu rfl (fun _ => rd_field fo_scan_scanner_1 (ev_t rfl)) ?_
    refine sr_rd rfl (rd_load one_int (ev_t rfl) (fun _ => by first | exact (hs.grow g).B.at_ rfl | exact B3.at_ rfl | exact B3.row)) ?_
    refine sr_pu rfl (fun _ => rd_add (ev_t rfl) ev_c (fun _ => by omega)) ?_
    refine sr_pu rfl (fun _ => rd_nil (ev_t rfl)) ?_
    refine sr_pu rfl (fun _ => rd_field fo_scan_scanner_1 (ev_t rfl)) ?_
    refine sr_store rfl sz_int (ev_t rfl) (ev_t rfl) rfl rfl (hs.grow g).B rfl rfl ?_
    intro w52 hg52 hz52 hB
    have hb := below_go hb g hg52 hs.base_le hs.hb
    have hs := (hs.grow g).setp (q := p + 1) hg52 hB
    refine sr_sub [] (sub_nil _) ?_
    refine sr_nil (t_end0 rfl ?_)
    refine ⟨rfl, ?_, hb⟩
    rw [hne] at hl ⊢
    exact hs.scn hl (by omega) (by omega) k4
  have hp : ts = [] := List.eq_nil_of_length_eq_zero (by simp only [decide_eq_false_iff_not] at h1; omega)
  have hne : nlTs p ts = ts := by rw [hp]; rfl
  have hl : (nlTs p ts).length ≤ p + 1 := by rw [hne]; omega
  refine sc_skip (hK1 _ _ ?_)
  refine sc_sub [(0, _, _)] (sub_cons rfl (sub_nil _)) ?_
  refine sc_text [3, 3, 3, 0, 3, 3, 3, 2] ?_
  refine sr_pu rfl (fun _ => rd_move (ev_t rfl)) ?_
  refine sr_pu rfl (fun _ => rd_nil (ev_t rfl)) ?_
  refine sr_pu rfl (fun _ => rd_field fo_scan_scanner_1 (ev_t rfl)) ?_
  refine sr_rd rfl (rd_load one_int (ev_t rfl) (fun _ => by first | exact (hs.grow g).B.at_ rfl)) ?_
  refine sr_pu rfl (fun _ => rd_add (ev_t rfl) ev_c (fun _ => by omega)) ?_
  refine sr_pu rfl (fun _ => rd_nil (ev_t rfl)) ?_
  refine sr_pu rfl (fun _ => rd_field fo_scan_scanner_1 (ev_t rfl)) ?_
  refine sr_store rfl sz_int (ev_t rfl) (ev_t rfl) rfl rfl (hs.grow g).B rfl rfl ?_
  intro w52 hg52 hz52 hB
  have hb := below_go hb g hg52 hs.base_le hs.hb
  have hs := (hs.grow g).setp (q := p + 1) hg52 hB
  refine sr_sub [] (sub_nil _) ?_
  refine sr_nil (t_end0 rfl ?_)
  refine ⟨rfl, ?_, hb⟩
  rw [hne] at hl ⊢
  exact hs.scn hl (by omega) (by omega) k4
end Go.Rk
namespace Go.Rk
open Go Go.RowKit
/-- How many bytes in a row satisfy a condition. -/
def runN (q : Int → Bool) : List UInt8 → Nat
  | [] => 0
  | c :: l => if q c.toNat = true then runN q l + 1 else 0
theorem runN_step {q : Int → Bool} {s : List UInt8} {k : Nat} (h : k < s.length) (hq : q (s.getD k 0).toNat = true) : runN q (s.drop k) = runN q (s.drop (k + 1)) + 1 := by
  rw [List.drop_eq_getElem_cons h, runN, if_pos (by simpa [List.getD_eq_getElem?_getD, List.getElem?_eq_getElem h] using hq)]
theorem runN_stop {q : Int → Bool} {s : List UInt8} {k : Nat} (h : k < s.length → q (s.getD k 0).toNat = false) : runN q (s.drop k) = 0 := by
  by_cases hk : k < s.length
  · rw [List.drop_eq_getElem_cons hk, runN, if_neg]
    have := h hk
    simp [List.getD_eq_getElem?_getD, List.getElem?_eq_getElem hk] at this
    simp [this]
  · rw [List.drop_of_length_le (by omega)]; rfl
theorem runN_le (q : Int → Bool) (l : List UInt8) : runN q l ≤ l.length := by
  induction l with
  | nil => exact Nat.le_refl _
  | cons c l ih => rw [runN]; split <;> simp <;> omega
theorem run_ok (base b : Nat) (s : List UInt8) (p : Nat) (ts cs : List Tok) (w : World) (hs : Scn base b s p ts cs w) (f : Nat) (q : Int → Bool) (hgo : goFn PP f = true) (hf : ∀ c w, Ret PP f #[.int .u8 c] w fun v w' => v = .bool (q c) ∧ G w w') :
    Ret PP fn_scan_scanner_run #[.pointer (some ⟨b, 0, none⟩), .func (.func f) #[] #[]] w fun v w' => v = .int .i64 (runN q (s.drop p)) ∧ G w w' := by
  obtain ⟨ta, tc, ca, cc, hs, k1, k2, k3, k4⟩ := hs.sa
  have g := G.refl w
  refine ret_of_sc (m := 36) func_scan_scanner_run rfl rfl [(0, True, _), (1, True, _)] (sub_cons rfl (sub_cons rfl (sub_nil _))) ?_
  refine sc_seq fun K1 hK1 => ?_
  refine sc_text [3] ?_
  refine sr_pu rfl (fun _ => rd_assign ev_c) ?_
  refine sr_nil (hK1 _ _ ?_)
  refine sc_seq fun K2 hK2 => ?_
  refine sc_text [3] ?_
  refine sr_pu rfl (fun _ => rd_assign ev_c) ?_
  refine sr_nil (hK2 _ _ ?_)
  refine sc_seq fun K3 hK3 => ?_
  refine sc_block ?_
  refine sc_loop (fun (n : Nat) u => p + n ≤ s.length ∧ runN q (s.drop p) = n + runN q (s.drop (p + n)) ∧ G w u) (fun n => [(0, True, .pointer (some ⟨b, 0, none⟩)), (1, True, .func (.func f) #[] #[]), (5, True, .int .i64 n)]) (fun n => s.length - n) 0 ⟨by omega, by simp, g⟩ (sub_cons rfl (sub_cons rfl (sub_cons rfl (sub_nil _)))) ?_
  rintro n u ⟨hn, he, g⟩
  refine sc_seq fun K4 hK4 => ?_
  refine sc_seq fun K5 hK5 => ?_
  refine sc_draw [3, 3, 3, 0, 3, 3, 3, 3, 3, 0, 3, 3, 3, 3, 3, 3, 3, 0, 3, 3, 3, 0, 3, 3, 3, 1, 3] [true, true, true, true, true, true, true, true, true, true, true, true, true, true, true, true, true, true, true, true, true, true, true, true, true, true, true] [0, 1, 3, 7, 0, 31, 0, 64, 192, 448, 960, 2047, 4095, 8191, 8191, 24575, 57343, 122879, 8191, 270335, 794623, 1843199, 8191, 8134655, 16769023, 33554431, 67108863] mix (by kernel_rfl) ?_
  have g := g.trans (G.drew _)
  refine sr_pu rfl (fun _ => rd_move (ev_t rfl)) ?_
  refine sr_pu rfl (fun _ => rd_nil (ev_t rfl)) ?_
  refine sr_pu rfl (fun _ => rd_field fo_scan_scanner_1 (ev_t rfl)) ?_
  refine sr_rd rfl (rd_load one_int (ev_t rfl) (fun _ => by first | exact (hs.grow g).B.at_ rfl)) ?_
  refine sr_pu rfl (fun _ => rd_move (ev_t rfl)) ?_
  refine sr_pu rfl (fun _ => rd_add (ev_t rfl) (ev_t rfl) (fun _ => by omega)) ?_
  refine sr_pu rfl (fun _ => rd_move (ev_t rfl)) ?_
  refine sr_pu rfl (fun _ => rd_nil (ev_t rfl)) ?_
  refine sr_pu rfl (fun _ => rd_field fo_scan_scanner_0 (ev_t rfl)) ?_
  refine sr_rd rfl (rd_load one_string (ev_t rfl) (fun _ => by first | exact (hs.grow g).B.at_ rfl)) ?_
  refine sr_pu rfl (fun _ => rd_slen str_string (ev_t rfl)) ?_
  refine sr_pu rfl (fun _ => rd_lt (ev_t rfl) (ev_t rfl)) ?_
  refine sr_pu rfl (fun _ => rd_move (ev_t rfl)) ?_
  refine sr_pug rfl rfl rfl (fun _ => rd_move (ev_t rfl)) ?_
  refine sr_pug rfl rfl rfl (fun _ => rd_move (ev_t rfl)) ?_
  refine sr_pug rfl rfl rfl (fun _ => rd_nil (ev_u rfl id)) ?_
  refine sr_pug rfl rfl rfl (fun _ => rd_field fo_scan_scanner_0 (ev_u rfl id)) ?_
  refine sr_rdg rfl rfl rfl (rd_load one_string (ev_u rfl id) (fun _ => by first | exact (hs.grow g).B.at_ rfl)) ?_
  refine sr_pug rfl rfl rfl (fun _ => rd_move (ev_t rfl)) ?_
  refine sr_pug rfl rfl rfl (fun _ => rd_nil (ev_u rfl id)) ?_
  refine sr_pug rfl rfl rfl (fun _ => rd_field fo_scan_scanner_1 (ev_u rfl id)) ?_
  refine sr_rdg rfl rfl rfl (rd_load one_int (ev_u rfl id) (fun _ => by first | exact (hs.grow g).B.at_ rfl)) ?_
  refine sr_pug rfl rfl rfl (fun _ => rd_move (ev_t rfl)) ?_
  refine sr_pug rfl rfl rfl (fun _ => rd_add (ev_u rfl id) (ev_u rfl id) (fun _ => by omega)) ?_
  refine sr_pug rfl rfl rfl (fun _ => rd_sidx str_string (ev_u rfl id) (ev_u rfl id) (fun hc => by have := of_decide_eq_true hc.2; omega)) ?_
  refine sr_pureg rfl rfl rfl (fun _ => (rc_call hgo (ev_u rfl id) (args_cons (ev_u rfl id) (args_nil)) rfl)) (fun hc => hf _ _) (fun w31 g31 => ?_)
  have g := g.trans (g31)
  refine sr_pu rfl (fun _ => rd_pick_and (ev_t rfl) (ev_u rfl id)) ?_
  refine sr_sub [(0, _, _), (1, _, _), (5, _, _), (32, _, _)] (sub_cons rfl (sub_cons rfl (sub_cons rfl (sub_cons rfl (sub_nil _))))) ?_
  refine sr_nil (hK5 _ _ ?_)
  refine sc_cond (ev_t rfl) (fun h1 => ?_) (fun h1 => ?_)
  · simp only [Bool.and_eq_true, decide_eq_true_eq] at h1
    obtain ⟨h1, h2⟩ := h1
    have e : ((p : Int) + n).toNat = p + n := by omega
    rw [e] at h2
    have hst := runN_step (by omega) h2
    refine sc_skip (hK4 _ _ ?_)
    refine sc_sub [(0, _, _), (1, _, _), (5, _, _)] (sub_cons rfl (sub_cons rfl (sub_cons rfl (sub_nil _)))) ?_
    refine sc_block ?_
    refine sc_text [3, 3, 3] ?_
    refine sr_pu rfl (fun _ => rd_move (ev_t rfl)) ?_
    refine sr_pu rfl (fun _ => rd_add (ev_t rfl) ev_c (fun _ => by omega)) ?_
    refine sr_pu rfl (fun _ => rd_assign (ev_t rfl)) ?_
    refine sr_sub [(0, _, _), (1, _, _), (5, _, _)] (sub_cons rfl (sub_cons rfl (sub_cons rfl (sub_nil _)))) ?_
    refine sr_nil (fun a ha => ?_)
    exact ⟨n + 1, ha, ⟨by omega, by rw [he, hst, Nat.add_assoc p n 1]; omega, g⟩, by omega⟩
  have hst : runN q (s.drop (p + n)) = 0 := runN_stop fun hk => by
    have e : ((p : Int) + n).toNat = p + n := by omega
    rw [e, decide_eq_true (by omega : (p : Int) + n < s.length), Bool.true_and] at h1
    exact h1
  refine sc_exit rfl (hK3 _ _ ?_)
  refine sc_sub [(5, _, _)] (sub_cons rfl (sub_nil _)) ?_
  refine sc_seq fun K6 hK6 => ?_
  refine sc_text [3, 3] ?_
  refine sr_pu rfl (fun _ => rd_move (ev_t rfl)) ?_
  refine sr_pu rfl (fun _ => rd_assign (ev_t rfl)) ?_
  refine sr_nil (hK6 _ _ ?_)
  refine sc_sub [(4, _, _), (5, _, _), (35, _, _)] (sub_cons rfl (sub_cons rfl (sub_cons rfl (sub_nil _)))) ?_
  refine sc_ret (t_ret1 rfl rfl ?_)
  refine ⟨?_, g⟩
  rw [he, hst]; rfl
end Go.Rk
namespace Go.Rk
open Go Go.Shelf Go.RowKit
/-- The value of digits. -/
def valN (a : Nat) (l : List UInt8) : Nat := l.foldl (fun a c => a * 10 + (c.toNat - 48)) a
def allD (l : List UInt8) : Prop := ∀ c ∈ l, 48 ≤ c.toNat ∧ c.toNat ≤ 57
theorem valN_cons (a : Nat) (c : UInt8) (l : List UInt8) : valN a (c :: l) = valN (a * 10 + (c.toNat - 48)) l := List.foldl_cons ..
theorem valN_ge (l : List UInt8) : ∀ a, a ≤ valN a l := by
  induction l with
  | nil => exact fun a => Nat.le_refl _
  | cons c l ih => intro a; have := ih (a * 10 + (c.toNat - 48)); rw [valN_cons]; omega
theorem parseM_digits (M : Nat) (hM : M = 18446744073709551615) : ∀ (l : List UInt8) (a : Nat), allD l → Lib.parseUintM M a l = if l = [] then .ok a else if valN a l ≤ M then .ok (valN a l) else .range
  | [], a, _ => rfl
  | c :: l, a, h => by
    have hc := h c (List.mem_cons_self ..)
    have ih := parseM_digits M hM l (a * 10 + (c.toNat - 48)) (fun x hx => h x (List.mem_cons_of_mem _ hx))
    have hge := valN_ge l (a * 10 + (c.toNat - 48))
    rw [if_neg (by simp : ¬ (c :: l) = []), valN_cons]
    rw [Lib.parseUintM, if_pos hc]
    generalize hv : a * 10 + (c.toNat - 48) = v at ih hge ⊢
    by_cases h1 : 1844674407370955162 ≤ a
    · rw [if_pos h1, if_neg (by omega)]
    · rw [if_neg h1]
      by_cases h2 : M < v
      · rw [if_pos h2, if_neg (by omega)]
      · rw [if_neg h2, ih]
        by_cases hl : l = []
        · subst hl; rw [if_pos rfl]; rw [if_pos (show valN v [] ≤ M by show v ≤ M; omega)]; rfl
        · rw [if_neg hl]
theorem parseI_digits (l : List UInt8) (h : allD l) (hne : l ≠ []) : Lib.parseIntB 64 l = if valN 0 l < 9223372036854775808 then .ok (valN 0 l : Int) else .range := by
  cases l with
  | nil => exact absurd rfl hne
  | cons c r =>
    have hc := h c (List.mem_cons_self ..)
    have e1 : (2 : Nat) ^ (64 - 1) = 9223372036854775808 := by decide
    have e2 : (2 : Nat) ^ 64 - 1 = 18446744073709551615 := by decide
    have hm := parseM_digits _ rfl (c :: r) 0 h
    rw [if_neg (by simp : ¬ (c :: r) = [])] at hm
    simp only [Lib.parseIntB, Lib.parseUintB, e1, e2]
    rw [if_neg (by omega : ¬ (c.toNat = 43 ∨ c.toNat = 45)), if_neg (by simp : ¬ (c :: r) = []), hm]
    by_cases h2 : valN 0 (c :: r) ≤ 18446744073709551615
    · rw [if_pos h2]
      by_cases h3 : valN 0 (c :: r) < 9223372036854775808
      · rw [if_pos h3]; simp only []; rw [if_neg (by omega), if_neg (by omega), if_neg (by omega)]
      · rw [if_neg h3]; simp only []; rw [if_pos (by omega)]
    · rw [if_neg h2, if_neg (by omega)]
/-- The error of strconv.ParseInt, as far as it matters: whether it is nil. -/
theorem parse_ok (l : List UInt8) (h : allD l) (hne : l ≠ []) (hl : l.length ≤ 20000) (w : World) (ev : Value) (hv : w.cell? ⟨3, 0, none⟩ = some ev) (hev : ev = .nilIface ∨ ∃ te pe, ev = .iface te pe) :
    Ret PP fn_strconv_ParseInt #[Str l, .int .i64 10, .int .i64 64] w fun v w' => (∃ x e, v = .tuple #[.int .i64 x, e] ∧ (e = .nilIface ∨ ∃ a b, e = .iface a b) ∧ nilV e = decide (valN 0 l < 9223372036854775808)) ∧ G w w' := by
  have hp := parseI_digits l h hne
  by_cases h3 : valN 0 l < 9223372036854775808
  · rw [if_pos h3] at hp
    refine (Go.Proofs.Any.strconv_ParseInt_10_at64_ok laysC174 ⟨l.toArray⟩ (by simp [ByteArray.size]; omega) _ (by simpa using hp) w).mono ?_
    rintro e w' ⟨rfl, hw⟩
    refine ⟨_, rfl, ⟨_, .nilIface, rfl, .inl rfl, by rw [decide_eq_true h3]; rfl⟩, ?_⟩
    rcases hw with rfl | ⟨t, rfl⟩
    · exact G.refl _
    · exact Lib.bytesWorld_below _ _ _
  · rw [if_neg h3] at hp
    refine (Go.Proofs.Any.strconv_ParseInt_10_at64_range laysC174 ⟨l.toArray⟩ (by simp [ByteArray.size]; omega) (by simpa using hp) ev w hv hev).mono ?_
    rintro e w' ⟨N, rfl, _, _, hb⟩
    exact ⟨_, rfl, ⟨_, _, rfl, .inr ⟨_, _, rfl⟩, by rw [decide_eq_false h3]; rfl⟩, hb⟩
end Go.Rk
namespace Go.Rk
open Go Go.RowKit
def opsL : List (List UInt8) := [[58, 61], [61, 61], [33, 61], [60, 61], [62, 61], [38, 38], [124, 124], [60, 45], [40], [41], [91], [93], [123], [125], [44], [59], [58], [46], [61], [60], [62], [43], [45], [42], [47], [37], [33]]
/-- What start-up laid. -/
structure Laid (w : World) : Prop where
  ops : RowAt w 0 0 (opsL.map Str)
  err : ∃ ev, w.cell? ⟨3, 0, none⟩ = some ev ∧ (ev = .nilIface ∨ ∃ te pe, ev = .iface te pe)
theorem Laid.grow {w w' : World} (h : Laid w) (g : G w w') : Laid w' :=
  ⟨h.ops.grow g, by
    obtain ⟨ev, h1, h2⟩ := h.err
    exact ⟨ev, cell_grow g h1, h2⟩⟩
def cAt (s : List UInt8) (p : Nat) : Int := ((s.getD p 0).toNat : Int)
def isNotLf (c : Int) : Bool := !decide (c = 10)
def isAlnum (c : Int) : Bool := letterB c || digitB c
def opLen (l : List UInt8) : Nat := match opsL.find? (fun o => preB o l) with
  | some o => o.length
  | none => 0
def badD (s : List UInt8) (p n : Nat) : Bool := (decide (cAt s p = 48) && decide ((1 : Int) < n)) || (decide ((p : Int) + n < s.length) && letterB (cAt s (p + n)))
def wordK (l : List UInt8) : Int := bif inB kws l then 3 else 1
/-- One step: the place, the tokens, the comments, the error. -/
def nextF (s : List UInt8) (p : Nat) (ts cs : List Tok) : Nat × List Tok × List Tok × Int :=
  bif decide (cAt s p = 10) then (p + 1, nlTs p ts, cs, 0)
  else bif (decide (cAt s p = 32) || decide (cAt s p = 9)) || decide (cAt s p = 13) then (p + 1, ts, cs, 0)
  else bif preB [47, 47] (s.drop p) then (p + runN isNotLf (s.drop p), ts, cs ++ [⟨5, (s.drop p).take (runN isNotLf (s.drop p)), p⟩], 0)
  else bif letterB (cAt s p) then bif decide ((32 : Int) < runN isAlnum (s.drop p)) then (p, ts, cs, 3)
    else (p + runN isAlnum (s.drop p), ts ++ [⟨wordK ((s.drop p).take (runN isAlnum (s.drop p))), (s.drop p).take (runN isAlnum (s.drop p)), p⟩], cs, 0)
  else bif digitB (cAt s p) then bif badD s p (runN digitB (s.drop p)) then (p, ts, cs, 4)
    else bif decide (valN 0 ((s.drop p).take (runN digitB (s.drop p))) < 9223372036854775808) then (p + runN digitB (s.drop p), ts ++ [⟨2, (s.drop p).take (runN digitB (s.drop p)), p⟩], cs, 0) else (p, ts, cs, 4)
  else bif Nat.beq (opLen (s.drop p)) 0 then (p, ts, cs, 4)
  else (p + opLen (s.drop p), ts ++ [⟨4, (s.drop p).take (opLen (s.drop p)), p⟩], cs, 0)
theorem runN_pos {q : Int → Bool} {s : List UInt8} {p : Nat} (h : p < s.length) (hq : q (cAt s p) = true) : 1 ≤ runN q (s.drop p) := by rw [runN_step h hq]; omega
theorem runN_fit (q : Int → Bool) {s : List UInt8} {p : Nat} (h : p < s.length) : p + runN q (s.drop p) ≤ s.length := by
  have := runN_le q (s.drop p); rw [List.length_drop] at this; omega
theorem runN_all (q : Int → Bool) : ∀ (l : List UInt8), ∀ c ∈ l.take (runN q l), q c.toNat = true
  | [], c, hc => by cases hc
  | a :: l, c, hc => by
    rw [runN] at hc
    split at hc
    · rename_i h
      rw [List.take_succ_cons] at hc
      rcases List.mem_cons.mp hc with rfl | hc
      · exact h
      · exact runN_all q l c hc
    · cases hc
theorem digits_allD (s : List UInt8) (p : Nat) : allD ((s.drop p).take (runN digitB (s.drop p))) := fun c hc => by
  have := runN_all digitB _ c hc
  simp only [digitB, Bool.and_eq_true, decide_eq_true_eq] at this
  omega
theorem opsL_at {i : Nat} (h : i < 27) : (opsL.map Str).toArray[i]? = some (Str (opsL.getD i [])) := by
  have hl : opsL.length = 27 := rfl
  simp [List.getD_eq_getElem?_getD, List.getElem?_eq_getElem (show i < opsL.length by omega)]
theorem opsL_pos : ∀ i < 27, 1 ≤ (opsL.getD i []).length := by decide
theorem opLen_some {l : List UInt8} {i : Nat} (h : i < 27) (h1 : ∀ j < i, preB (opsL.getD j []) l = false) (h2 : preB (opsL.getD i []) l = true) : opLen l = (opsL.getD i []).length := by
  have hl : opsL.length = 27 := rfl
  have : opsL.find? (fun o => preB o l) = some (opsL.getD i []) := by
    rw [List.find?_eq_some_iff_getElem]
    refine ⟨h2, i, by omega, ?_, fun j hj => ?_⟩
    · simp [List.getD_eq_getElem?_getD, List.getElem?_eq_getElem (show i < opsL.length by omega)]
    · have := h1 j hj
      simp [List.getD_eq_getElem?_getD, List.getElem?_eq_getElem (show j < opsL.length by omega)] at this
      simp [this]
  rw [opLen, this]
theorem opLen_none {l : List UInt8} (h1 : ∀ j < 27, preB (opsL.getD j []) l = false) : opLen l = 0 := by
  have hl : opsL.length = 27 := rfl
  have : opsL.find? (fun o => preB o l) = none := by
    rw [List.find?_eq_none]
    intro o ho
    obtain ⟨j, hj, rfl⟩ := List.getElem_of_mem ho
    have := h1 j (by omega)
    simp [List.getD_eq_getElem?_getD, List.getElem?_eq_getElem hj] at this
    simp [this]
  rw [opLen, this]
theorem preB_len {o l : List UInt8} (h : preB o l = true) : o.length ≤ l.length ∧ l.take o.length = o := by
  simpa [preB] using h
theorem next_ok (base b : Nat) (hb3 : 4 ≤ base) (s : List UInt8) (p : Nat) (ts cs : List Tok) (w : World) (hL : Laid w) (hs : Scn base b s p ts cs w) (hp : p < s.length) :
    Ret PP fn_scan_scanner_next #[.pointer (some ⟨b, 0, none⟩)] w fun v w' => v = .int .i64 (nextF s p ts cs).2.2.2 ∧ Scn base b s (nextF s p ts cs).1 (nextF s p ts cs).2.1 (nextF s p ts cs).2.2.1 w' ∧ Below base w w' := by
  obtain ⟨ta, tc, ca, cc, hs, k1, k2, k3, k4⟩ := hs.sa
  have g := G.refl w
  refine ret_of_sc (m := 204) func_scan_scanner_next rfl rfl [(0, True, _)] (sub_cons rfl (sub_nil _)) ?_
  refine sc_seq fun K1 hK1 => ?_
  refine sc_text [3] ?_
  refine sr_pu rfl (fun _ => rd_assign ev_c) ?_
  refine sr_nil (hK1 _ _ ?_)
  refine sc_seq fun K2 hK2 => ?_
  refine sc_draw [3, 3, 3, 0, 3, 3, 3, 0, 3, 3] [true, true, true, true, true, true, true, true, true, true] [0, 1, 3, 7, 0, 16, 48, 112, 255, 511] mix (by kernel_rfl) ?_
  have g := g.trans (G.drew _)
  refine sr_pu rfl (fun _ => rd_move (ev_t rfl)) ?_
  refine sr_pu rfl (fun _ => rd_nil (ev_t rfl)) ?_
  refine sr_pu rfl (fun _ => rd_field fo_scan_scanner_0 (ev_t rfl)) ?_
  refine sr_rd rfl (rd_load one_string (ev_t rfl) (fun _ => by first | exact (hs.grow g).B.at_ rfl)) ?_
  refine sr_pu rfl (fun _ => rd_move (ev_t rfl)) ?_
  refine sr_pu rfl (fun _ => rd_nil (ev_t rfl)) ?_
  refine sr_pu rfl (fun _ => rd_field fo_scan_scanner_1 (ev_t rfl)) ?_
  refine sr_rd rfl (rd_load one_int (ev_t rfl) (fun _ => by first | exact (hs.grow g).B.at_ rfl)) ?_
  refine sr_pu rfl (fun _ => rd_sidx str_string (ev_t rfl) (ev_t rfl) (fun _ => by omega)) ?_
  refine sr_pu rfl (fun _ => rd_assign (ev_t rfl)) ?_
  refine sr_sub [(0, _, _), (2, _, _), (3, _, _)] (sub_cons rfl (sub_cons rfl (sub_cons rfl (sub_nil _)))) ?_
  refine sr_nil (hK2 _ _ ?_)
  refine sc_seq fun K3 hK3 => ?_
  refine sc_block ?_
  refine sc_seq fun K4 hK4 => ?_
  refine sc_text [3, 3, 3] ?_
  refine sr_pu rfl (fun _ => rd_move (ev_t rfl)) ?_
  refine sr_pu rfl (fun _ => rd_eq (ev_t rfl) ev_c) ?_
  refine sr_pu rfl (fun _ => rd_assign (ev_t rfl)) ?_
  refine sr_sub [(0, _, _), (2, _, _), (3, _, _), (41, _, _)] (sub_cons rfl (sub_cons rfl (sub_cons rfl (sub_cons rfl (sub_nil _))))) ?_
  refine sr_nil (hK4 _ _ ?_)
  refine sc_cond (ev_t rfl) (fun h1 => ?_) (fun h1 => ?_)
  · replace h1 : decide (cAt s p = 10) = true := h1
    have hN : nextF s p ts cs = (p + 1, nlTs p ts, cs, 0) := by unfold nextF; rw [h1]; rfl
    refine sc_text [3, 2] ?_
    refine sr_pu rfl (fun _ => rd_move (ev_t rfl)) ?_
    refine sr_call rfl (rc_call go_scan_scanner_newline ev_f (args_cons (ev_t rfl) (args_nil)) rfl) (newline_ok base b s p ts cs _ ((hs.grow g).scn k1 k2 k3 k4) hp) ?_
    rintro v45 w45 ⟨rfl, hs', hb'⟩
    refine ⟨fun h => absurd h (by decide), ?_⟩
    have hb' := (below_g g hs.base_le).trans hb'
    refine sr_sub [(2, _, _)] (sub_cons rfl (sub_nil _)) ?_
    refine sr_nil (hK3 _ _ ?_)
    refine sc_seq fun K5 hK5 => ?_
    refine sc_text [3] ?_
    refine sr_pu rfl (fun _ => rd_assign ev_c) ?_
    refine sr_nil (hK5 _ _ ?_)
    refine sc_ret (t_ret1 rfl rfl ?_)
    rw [hN]; exact ⟨rfl, hs', hb'⟩
  replace h1 : decide (cAt s p = 10) = false := h1
  refine sc_seq fun K6 hK6 => ?_
  refine sc_text [3, 3, 3, 3, 3, 3, 3, 3, 3, 3, 3] ?_
  refine sr_pu rfl (fun _ => rd_move (ev_t rfl)) ?_
  refine sr_pu rfl (fun _ => rd_eq (ev_t rfl) ev_c) ?_
  refine sr_pu rfl (fun _ => rd_move (ev_t rfl)) ?_
  refine sr_pug rfl rfl rfl (fun _ => rd_move (ev_t rfl)) ?_
  refine sr_pug rfl rfl rfl (fun _ => rd_eq (ev_u rfl id) ev_c) ?_
  refine sr_pu rfl (fun _ => rd_pick_or (ev_t rfl) (ev_u rfl id)) ?_
  refine sr_pu rfl (fun _ => rd_move (ev_t rfl)) ?_
  refine sr_pug rfl rfl rfl (fun _ => rd_move (ev_t rfl)) ?_
  refine sr_pug rfl rfl rfl (fun _ => rd_eq (ev_u rfl id) ev_c) ?_
  refine sr_pu rfl (fun _ => rd_pick_or (ev_t rfl) (ev_u rfl id)) ?_
  refine sr_pu rfl (fun _ => rd_assign (ev_t rfl)) ?_
  refine sr_sub [(0, _, _), (2, _, _), (3, _, _), (46, _, _)] (sub_cons rfl (sub_cons rfl (sub_cons rfl (sub_cons rfl (sub_nil _))))) ?_
  refine sr_nil (hK6 _ _ ?_)
  refine sc_cond (ev_t rfl) (fun h2 => ?_) (fun h2 => ?_)
  · replace h2 : ((decide (cAt s p = 32) || decide (cAt s p = 9)) || decide (cAt s p = 13)) = true := h2
    have hN : nextF s p ts cs = (p + 1, ts, cs, 0) := by unfold nextF; rw [h1, h2]; rfl
    refine sc_text [3, 3, 3, 0, 3, 3, 3, 2] ?_
    refine sr_pu rfl (fun _ => rd_move (ev_t rfl)) ?_
    refine sr_pu rfl (fun _ => rd_nil (ev_t rfl)) ?_
    refine sr_pu rfl (fun _ => rd_field fo_scan_scanner_1 (ev_t rfl)) ?_
    refine sr_rd rfl (rd_load one_int (ev_t rfl) (fun _ => by first | exact (hs.grow g).B.at_ rfl)) ?_
    refine sr_pu rfl (fun _ => rd_add (ev_t rfl) ev_c (fun _ => by omega)) ?_
    refine sr_pu rfl (fun _ => rd_nil (ev_t rfl)) ?_
    refine sr_pu rfl (fun _ => rd_field fo_scan_scanner_1 (ev_t rfl)) ?_
    refine sr_store rfl sz_int (ev_t rfl) (ev_t rfl) rfl rfl (hs.grow g).B rfl rfl ?_
    intro w63 hg63 hz63 hB
    have hb' := below_go (Below.refl _ _) g hg63 hs.base_le hs.hb
    have hs' := ((hs.grow g).setp (q := p + 1) hg63 hB).scn (by omega) (by omega) (by omega) k4
    refine sr_sub [(2, _, _)] (sub_cons rfl (sub_nil _)) ?_
    refine sr_nil (hK3 _ _ ?_)
    refine sc_seq fun K7 hK7 => ?_
    refine sc_text [3] ?_
    refine sr_pu rfl (fun _ => rd_assign ev_c) ?_
    refine sr_nil (hK7 _ _ ?_)
    refine sc_ret (t_ret1 rfl rfl ?_)
    rw [hN]; exact ⟨rfl, hs', hb'⟩
  replace h2 : ((decide (cAt s p = 32) || decide (cAt s p = 9)) || decide (cAt s p = 13)) = false := h2
  refine sc_seq fun K8 hK8 => ?_
  refine sc_draw [3, 3, 3, 0, 3, 3, 3, 0, 3, 1, 3] [true, true, true, true, true, true, true, true, true, true, true] [0, 1, 3, 7, 0, 16, 48, 112, 255, 511, 1023] mix (by kernel_rfl) ?_
  have g := g.trans (G.drew _)
  refine sr_pu rfl (fun _ => rd_move (ev_t rfl)) ?_
  refine sr_pu rfl (fun _ => rd_nil (ev_t rfl)) ?_
  refine sr_pu rfl (fun _ => rd_field fo_scan_scanner_0 (ev_t rfl)) ?_
  refine sr_rd rfl (rd_load one_string (ev_t rfl) (fun _ => by first | exact (hs.grow g).B.at_ rfl)) ?_
  refine sr_pu rfl (fun _ => rd_move (ev_t rfl)) ?_
  refine sr_pu rfl (fun _ => rd_nil (ev_t rfl)) ?_
  refine sr_pu rfl (fun _ => rd_field fo_scan_scanner_1 (ev_t rfl)) ?_
  refine sr_rd rfl (rd_load one_int (ev_t rfl) (fun _ => by first | exact (hs.grow g).B.at_ rfl)) ?_
  refine sr_pu rfl (fun _ => rd_ssl_from str_string (ev_t rfl) (ev_t rfl) (fun _ => by omega)) ?_
  refine sr_pure rfl (rc_call go_strings_HasPrefix ev_f (args_cons (ev_t rfl) (args_cons ev_c (args_nil))) rfl) (shasprefix_ok _ _ _) (fun w74 g74 => ?_)
  have g := g.trans (g74)
  refine sr_pu rfl (fun _ => rd_assign (ev_t rfl)) ?_
  refine sr_sub [(0, _, _), (2, _, _), (3, _, _), (64, _, _)] (sub_cons rfl (sub_cons rfl (sub_cons rfl (sub_cons rfl (sub_nil _))))) ?_
  refine sr_nil (hK8 _ _ ?_)
  refine sc_cond (ev_t rfl) (fun h3 => ?_) (fun h3 => ?_)
  · replace h3 : preB [47, 47] (s.drop p) = true := h3
    have hn := runN_pos (q := isNotLf) hp (by rw [isNotLf, h1]; rfl)
    have hf := runN_fit isNotLf hp
    have hN : nextF s p ts cs = (p + runN isNotLf (s.drop p), ts, cs ++ [⟨5, (s.drop p).take (runN isNotLf (s.drop p)), p⟩], 0) := by unfold nextF; rw [h1, h2, h3]; rfl
    have e : ((p : Int) + (runN isNotLf (s.drop p) : Nat)).toNat - (p : Int).toNat = runN isNotLf (s.drop p) := by omega
    refine sc_seq fun K9 hK9 => ?_
    refine sc_text [3, 1, 3] ?_
    refine sr_pu rfl (fun _ => rd_move (ev_t rfl)) ?_
    refine sr_pure rfl (rc_call go_scan_scanner_run ev_f (args_cons (ev_t rfl) (args_cons ev_f (args_nil))) rfl) (run_ok base b s p ts cs _ ((hs.grow g).scn k1 k2 k3 k4) _ isNotLf go_scan_scanner_next_1 notlf_ok) (fun w76 g76 => ?_)
    have g := g.trans (g76)
    refine sr_pu rfl (fun _ => rd_assign (ev_t rfl)) ?_
    refine sr_sub [(0, _, _), (2, _, _), (4, _, _)] (sub_cons rfl (sub_cons rfl (sub_cons rfl (sub_nil _)))) ?_
    refine sr_nil (hK9 _ _ ?_)
    refine sc_seq fun K10 hK10 => ?_
    refine sc_draw [3, 3, 3, 3, 0, 3, 3, 3, 0, 3, 3, 3, 0, 3, 3, 3, 0, 3, 3, 3, 3, 3, 3, 0, 3, 1, 2, 3, 3, 2] [true, true, true, true, true, true, true, true, true, true, true, true, true, true, true, true, true, true, true, true, true, true, true, true, true, true, true, true, true, true] [0, 0, 2, 6, 14, 0, 32, 96, 224, 0, 512, 1536, 3584, 0, 8192, 24576, 57344, 0, 253952, 524256, 0, 1048576, 3145728, 7340032, 16777184, 33554400, 67108862, 134217727, 268435455, 536870911] mix (by kernel_rfl) ?_
    have g := g.trans (G.drew _)
    refine sr_pu rfl (fun _ => rd_move (ev_t rfl)) ?_
    refine sr_pu rfl (fun _ => rd_move (ev_t rfl)) ?_
    refine sr_pu rfl (fun _ => rd_nil (ev_t rfl)) ?_
    refine sr_pu rfl (fun _ => rd_field fo_scan_scanner_3 (ev_t rfl)) ?_
    refine sr_rd rfl (rd_load one_sl_api_Token (ev_t rfl) (fun _ => by first | exact (hs.grow g).B.at_ rfl)) ?_
    refine sr_pu rfl (fun _ => rd_move (ev_t rfl)) ?_
    refine sr_pu rfl (fun _ => rd_nil (ev_t rfl)) ?_
    refine sr_pu rfl (fun _ => rd_field fo_scan_scanner_0 (ev_t rfl)) ?_
    refine sr_rd rfl (rd_load one_string (ev_t rfl) (fun _ => by first | exact (hs.grow g).B.at_ rfl)) ?_
    refine sr_pu rfl (fun _ => rd_move (ev_t rfl)) ?_
    refine sr_pu rfl (fun _ => rd_nil (ev_t rfl)) ?_
    refine sr_pu rfl (fun _ => rd_field fo_scan_scanner_1 (ev_t rfl)) ?_
    refine sr_rd rfl (rd_load one_int (ev_t rfl) (fun _ => by first | exact (hs.grow g).B.at_ rfl)) ?_
    refine sr_pu rfl (fun _ => rd_move (ev_t rfl)) ?_
    refine sr_pu rfl (fun _ => rd_nil (ev_t rfl)) ?_
    refine sr_pu rfl (fun _ => rd_field fo_scan_scanner_1 (ev_t rfl)) ?_
    refine sr_rd rfl (rd_load one_int (ev_t rfl) (fun _ => by first | exact (hs.grow g).B.at_ rfl)) ?_
    refine sr_pu rfl (fun _ => rd_move (ev_t rfl)) ?_
    refine sr_pu rfl (fun _ => rd_add (ev_t rfl) (ev_t rfl) (fun _ => by omega)) ?_
    refine sr_pu rfl (fun _ => rd_ssl str_string (ev_t rfl) (ev_t rfl) (ev_t rfl) (fun _ => by omega)) ?_
    refine sr_pu rfl (fun _ => rd_move (ev_t rfl)) ?_
    refine sr_pu rfl (fun _ => rd_nil (ev_t rfl)) ?_
    refine sr_pu rfl (fun _ => rd_field fo_scan_scanner_1 (ev_t rfl)) ?_
    refine sr_rd rfl (rd_load one_int (ev_t rfl) (fun _ => by first | exact (hs.grow g).B.at_ rfl)) ?_
    refine sr_pu rfl (fun _ => rd_build [_, _, _] ze_api_Token rfl pl_api_Token (parts_cons ev_c (parts_cons (ev_t rfl) (parts_cons (ev_t rfl) (parts_nil)))) rfl) ?_
    refine sr_buildSlice [_, _, _] rfl el_sl_api_Token ze_api_Token (parts_cons (ev_t rfl) (parts_nil)) rfl rfl ?_
    intro b102 w102 N102
    have l102 := N102.ge g
    have g := g.trans (N102.g)
    have B102 := N102.blk
    have hb := below_g g hs.base_le
    have hs := hs.grow g
    have hz0 := hs.base_le
    refine sr_append rfl el_sl_api_Token ze_api_Token rfl (by decide) (ev_t rfl) hs.hc (ev_t rfl) rfl N102.blk.row rfl (by simp only [maxLen]; omega) (by omega) (by omega) ?_
    intro ca' cc' w103 hc' hg103 hat
    have hB := hs.B.keep hg103 (Ne.symm hs.n2)
    have hz := hg103.size
    refine sr_pu rfl (fun _ => rd_nil (ev_t rfl)) ?_
    refine sr_pu rfl (fun _ => rd_field fo_scan_scanner_3 (ev_t rfl)) ?_
    refine sr_store rfl sz_sl_api_Token (ev_t rfl) (ev_t rfl) rfl rfl hB rfl rfl ?_
    intro w105 hg105 hz105 hB
    have hb := below_only (below_only hb hg103 hs.base_le (fun k hk => (hs.hc.lt k hk).1)) hg105 (by have := hs.base_le; omega) (fun k hk => by injection hk with hk; have := hs.hb; omega)
    rw [e] at hc'
    have hs := hs.putC (t := ⟨5, (s.drop p).take (runN isNotLf (s.drop p)), p⟩) hc' hg103 hat hg105 hB
    have g := G.refl w105
    refine sr_sub [(0, _, _), (2, _, _), (4, _, _)] (sub_cons rfl (sub_cons rfl (sub_cons rfl (sub_nil _)))) ?_
    refine sr_nil (hK10 _ _ ?_)
    refine sc_text [3, 3, 3, 0, 3, 3, 3, 3, 2] ?_
    refine sr_pu rfl (fun _ => rd_move (ev_t rfl)) ?_
    refine sr_pu rfl (fun _ => rd_nil (ev_t rfl)) ?_
    refine sr_pu rfl (fun _ => rd_field fo_scan_scanner_1 (ev_t rfl)) ?_
    refine sr_rd rfl (rd_load one_int (ev_t rfl) (fun _ => by first | exact (hs.grow g).B.at_ rfl | exact B102.at_ rfl | exact B102.row)) ?_
    refine sr_pu rfl (fun _ => rd_move (ev_t rfl)) ?_
    refine sr_pu rfl (fun _ => rd_add (ev_t rfl) (ev_t rfl) (fun _ => by omega)) ?_
    refine sr_pu rfl (fun _ => rd_nil (ev_t rfl)) ?_
    refine sr_pu rfl (fun _ => rd_field fo_scan_scanner_1 (ev_t rfl)) ?_
    refine sr_store rfl sz_int (ev_t rfl) (ev_t rfl) rfl rfl (hs.grow g).B rfl rfl ?_
    intro w113 hg113 hz113 hB
    have hb' := below_go hb g hg113 hs.base_le hs.hb
    have hs' := ((hs.grow g).setp (q := p + runN isNotLf (s.drop p)) hg113 hB).scn (by omega) (by rw [List.length_append]; show cs.length + 1 ≤ _; omega) hf k4
    refine sr_sub [(2, _, _)] (sub_cons rfl (sub_nil _)) ?_
    refine sr_nil (hK3 _ _ ?_)
    refine sc_seq fun K11 hK11 => ?_
    refine sc_text [3] ?_
    refine sr_pu rfl (fun _ => rd_assign ev_c) ?_
    refine sr_nil (hK11 _ _ ?_)
    refine sc_ret (t_ret1 rfl rfl ?_)
    rw [hN]; exact ⟨rfl, hs', hb'⟩
  replace h3 : preB [47, 47] (s.drop p) = false := h3
  refine sc_seq fun K12 hK12 => ?_
  refine sc_text [3, 1, 3] ?_
  refine sr_pu rfl (fun _ => rd_move (ev_t rfl)) ?_
  refine sr_pure rfl (rc_call go_scan_letter ev_f (args_cons (ev_t rfl) (args_nil)) rfl) (letter_ok _ _) (fun w116 g116 => ?_)
  have g := g.trans (g116)
  refine sr_pu rfl (fun _ => rd_assign (ev_t rfl)) ?_
  refine sr_sub [(0, _, _), (2, _, _), (3, _, _), (114, _, _)] (sub_cons rfl (sub_cons rfl (sub_cons rfl (sub_cons rfl (sub_nil _))))) ?_
  refine sr_nil (hK12 _ _ ?_)
  refine sc_cond (ev_t rfl) (fun h4 => ?_) (fun h4 => ?_)
  · replace h4 : letterB (cAt s p) = true := h4
    have hn := runN_pos (q := isAlnum) hp (by rw [isAlnum, h4]; rfl)
    have hf := runN_fit isAlnum hp
    have e : ((p : Int) + (runN isAlnum (s.drop p) : Nat)).toNat - (p : Int).toNat = runN isAlnum (s.drop p) := by omega
    refine sc_seq fun K13 hK13 => ?_
    refine sc_text [3, 1, 3] ?_
    refine sr_pu rfl (fun _ => rd_move (ev_t rfl)) ?_
    refine sr_pure rfl (rc_call go_scan_scanner_run ev_f (args_cons (ev_t rfl) (args_cons ev_f (args_nil))) rfl) (run_ok base b s p ts cs _ ((hs.grow g).scn k1 k2 k3 k4) _ isAlnum go_scan_scanner_next_2 alnum_ok) (fun w118 g118 => ?_)
    have g := g.trans (g118)
    refine sr_pu rfl (fun _ => rd_assign (ev_t rfl)) ?_
    refine sr_sub [(0, _, _), (2, _, _), (5, _, _)] (sub_cons rfl (sub_cons rfl (sub_cons rfl (sub_nil _)))) ?_
    refine sr_nil (hK13 _ _ ?_)
    refine sc_seq fun K14 hK14 => ?_
    refine sc_seq fun K15 hK15 => ?_
    refine sc_text [3, 3] ?_
    refine sr_pu rfl (fun _ => rd_move (ev_t rfl)) ?_
    refine sr_pu rfl (fun _ => rd_gt (ev_t rfl) ev_c) ?_
    refine sr_sub [(0, _, _), (2, _, _), (5, _, _), (120, _, _)] (sub_cons rfl (sub_cons rfl (sub_cons rfl (sub_cons rfl (sub_nil _))))) ?_
    refine sr_nil (hK15 _ _ ?_)
    refine sc_cond (ev_t rfl) (fun h5 => ?_) (fun h5 => ?_)
    · have hN : nextF s p ts cs = (p, ts, cs, 3) := by unfold nextF; rw [h1, h2, h3, h4, h5]; rfl
      have hs' := (hs.grow g).scn k1 k2 k3 k4
      have hb' := below_g g hs.base_le
      refine sc_seq fun K16 hK16 => ?_
      refine sc_text [3] ?_
      refine sr_pu rfl (fun _ => rd_assign ev_c) ?_
      refine sr_sub [(0, _, _), (2, _, _), (5, _, _)] (sub_cons rfl (sub_cons rfl (sub_cons rfl (sub_nil _)))) ?_
      refine sr_nil (hK16 _ _ ?_)
      refine sc_ret (t_ret1 rfl rfl ?_)
      rw [hN]; exact ⟨rfl, hs', hb'⟩
    (try simp only [bsimp] at h5)
    refine sc_skip (hK14 _ _ ?_)
    refine sc_sub [(0, _, _), (2, _, _), (5, _, _)] (sub_cons rfl (sub_cons rfl (sub_cons rfl (sub_nil _)))) ?_
    refine sc_seq fun K17 hK17 => ?_
    refine sc_text [3] ?_
    refine sr_pu rfl (fun _ => rd_assign ev_c) ?_
    refine sr_nil (hK17 _ _ ?_)
    refine sc_seq fun K18 hK18 => ?_
    refine sc_seq fun K19 hK19 => ?_
    refine sc_draw [3, 3, 3, 0, 3, 3, 3, 0, 3, 3, 3, 0, 3, 3, 3, 1] [true, true, true, true, true, true, true, true, true, true, true, true, true, true, true, true] [0, 1, 3, 7, 0, 16, 48, 112, 0, 256, 768, 1792, 0, 7936, 16383, 32767] mix (by kernel_rfl) ?_
    have g := g.trans (G.drew _)
    refine sr_pu rfl (fun _ => rd_move (ev_t rfl)) ?_
    refine sr_pu rfl (fun _ => rd_nil (ev_t rfl)) ?_
    refine sr_pu rfl (fun _ => rd_field fo_scan_scanner_0 (ev_t rfl)) ?_
    refine sr_rd rfl (rd_load one_string (ev_t rfl) (fun _ => by first | exact (hs.grow g).B.at_ rfl)) ?_
    refine sr_pu rfl (fun _ => rd_move (ev_t rfl)) ?_
    refine sr_pu rfl (fun _ => rd_nil (ev_t rfl)) ?_
    refine sr_pu rfl (fun _ => rd_field fo_scan_scanner_1 (ev_t rfl)) ?_
    refine sr_rd rfl (rd_load one_int (ev_t rfl) (fun _ => by first | exact (hs.grow g).B.at_ rfl)) ?_
    refine sr_pu rfl (fun _ => rd_move (ev_t rfl)) ?_
    refine sr_pu rfl (fun _ => rd_nil (ev_t rfl)) ?_
    refine sr_pu rfl (fun _ => rd_field fo_scan_scanner_1 (ev_t rfl)) ?_
    refine sr_rd rfl (rd_load one_int (ev_t rfl) (fun _ => by first | exact (hs.grow g).B.at_ rfl)) ?_
    refine sr_pu rfl (fun _ => rd_move (ev_t rfl)) ?_
    refine sr_pu rfl (fun _ => rd_add (ev_t rfl) (ev_t rfl) (fun _ => by omega)) ?_
    refine sr_pu rfl (fun _ => rd_ssl str_string (ev_t rfl) (ev_t rfl) (ev_t rfl) (fun _ => by omega)) ?_
    refine sr_pure rfl (rc_call go_scan_Keyword ev_f (args_cons (ev_t rfl) (args_nil)) rfl) (keyword_ok _ _) (fun w136 g136 => ?_)
    have g := g.trans (g136)
    refine sr_sub [(0, _, _), (2, _, _), (5, _, _), (6, _, _), (136, _, _)] (sub_cons rfl (sub_cons rfl (sub_cons rfl (sub_cons rfl (sub_cons rfl (sub_nil _)))))) ?_
    refine sr_nil (hK19 _ _ ?_)
    refine sc_cond (ev_t rfl) (fun h6 => ?_) (fun h6 => ?_)
    · rw [e] at h6
      replace h6 : inB kws ((s.drop p).take (runN isAlnum (s.drop p))) = true := h6
      have hN : nextF s p ts cs = (p + runN isAlnum (s.drop p), ts ++ [⟨3, (s.drop p).take (runN isAlnum (s.drop p)), p⟩], cs, 0) := by unfold nextF; rw [h1, h2, h3, h4, h5, wordK, h6]; rfl
      refine sc_text [3] ?_
      refine sr_pu rfl (fun _ => rd_assign ev_c) ?_
      refine sr_sub [(0, _, _), (2, _, _), (5, _, _), (6, _, _)] (sub_cons rfl (sub_cons rfl (sub_cons rfl (sub_cons rfl (sub_nil _))))) ?_
      refine sr_nil (hK18 _ _ ?_)
      refine sc_text [3, 3, 3, 2] ?_
      refine sr_pu rfl (fun _ => rd_move (ev_t rfl)) ?_
      refine sr_pu rfl (fun _ => rd_move (ev_t rfl)) ?_
      refine sr_pu rfl (fun _ => rd_move (ev_t rfl)) ?_
      refine sr_call rfl (rc_call go_scan_scanner_put ev_f (args_cons (ev_t rfl) (args_cons (ev_t rfl) (args_cons (ev_t rfl) (args_nil)))) rfl) (put_ok base b s p ts cs _ _ _ ((hs.grow g).scn k1 k2 k3 k4) hn hf) ?_
      rintro v140 w140 ⟨rfl, hs', hb'⟩
      refine ⟨fun h => absurd h (by decide), ?_⟩
      have hb' := (below_g g hs.base_le).trans hb'
      refine sr_sub [(2, _, _)] (sub_cons rfl (sub_nil _)) ?_
      refine sr_nil (hK3 _ _ ?_)
      refine sc_seq fun K20 hK20 => ?_
      refine sc_text [3] ?_
      refine sr_pu rfl (fun _ => rd_assign ev_c) ?_
      refine sr_nil (hK20 _ _ ?_)
      refine sc_ret (t_ret1 rfl rfl ?_)
      rw [hN]; exact ⟨rfl, hs', hb'⟩
    rw [e] at h6
    replace h6 : inB kws ((s.drop p).take (runN isAlnum (s.drop p))) = false := h6
    have hN : nextF s p ts cs = (p + runN isAlnum (s.drop p), ts ++ [⟨1, (s.drop p).take (runN isAlnum (s.drop p)), p⟩], cs, 0) := by unfold nextF; rw [h1, h2, h3, h4, h5, wordK, h6]; rfl
    refine sc_skip (hK18 _ _ ?_)
    refine sc_sub [(0, _, _), (2, _, _), (5, _, _), (6, _, _)] (sub_cons rfl (sub_cons rfl (sub_cons rfl (sub_cons rfl (sub_nil _))))) ?_
    refine sc_text [3, 3, 3, 2] ?_
    refine sr_pu rfl (fun _ => rd_move (ev_t rfl)) ?_
    refine sr_pu rfl (fun _ => rd_move (ev_t rfl)) ?_
    refine sr_pu rfl (fun _ => rd_move (ev_t rfl)) ?_
    refine sr_call rfl (rc_call go_scan_scanner_put ev_f (args_cons (ev_t rfl) (args_cons (ev_t rfl) (args_cons (ev_t rfl) (args_nil)))) rfl) (put_ok base b s p ts cs _ _ _ ((hs.grow g).scn k1 k2 k3 k4) hn hf) ?_
    rintro v140 w140 ⟨rfl, hs', hb'⟩
    refine ⟨fun h => absurd h (by decide), ?_⟩
    have hb' := (below_g g hs.base_le).trans hb'
    refine sr_sub [(2, _, _)] (sub_cons rfl (sub_nil _)) ?_
    refine sr_nil (hK3 _ _ ?_)
    refine sc_seq fun K21 hK21 => ?_
    refine sc_text [3] ?_
    refine sr_pu rfl (fun _ => rd_assign ev_c) ?_
    refine sr_nil (hK21 _ _ ?_)
    refine sc_ret (t_ret1 rfl rfl ?_)
    rw [hN]; exact ⟨rfl, hs', hb'⟩
  replace h4 : letterB (cAt s p) = false := h4
  refine sc_seq fun K22 hK22 => ?_
  refine sc_text [3, 1, 3] ?_
  refine sr_pu rfl (fun _ => rd_move (ev_t rfl)) ?_
  refine sr_pure rfl (rc_call go_scan_digit ev_f (args_cons (ev_t rfl) (args_nil)) rfl) (digit_ok _ _) (fun w143 g143 => ?_)
  have g := g.trans (g143)
  refine sr_pu rfl (fun _ => rd_assign (ev_t rfl)) ?_
  refine sr_sub [(0, _, _), (2, _, _), (3, _, _), (141, _, _)] (sub_cons rfl (sub_cons rfl (sub_cons rfl (sub_cons rfl (sub_nil _))))) ?_
  refine sr_nil (hK22 _ _ ?_)
  refine sc_cond (ev_t rfl) (fun h7 => ?_) (fun h7 => ?_)
  · replace h7 : digitB (cAt s p) = true := h7
    have hn := runN_pos (q := digitB) hp h7
    have hf := runN_fit digitB hp
    have e : ((p : Int) + (runN digitB (s.drop p) : Nat)).toNat - (p : Int).toNat = runN digitB (s.drop p) := by omega
    refine sc_seq fun K23 hK23 => ?_
    refine sc_text [3, 1, 3] ?_
    refine sr_pu rfl (fun _ => rd_move (ev_t rfl)) ?_
    refine sr_pure rfl (rc_call go_scan_scanner_run ev_f (args_cons (ev_t rfl) (args_cons ev_f (args_nil))) rfl) (run_ok base b s p ts cs _ ((hs.grow g).scn k1 k2 k3 k4) _ digitB go_scan_digit digit_ok) (fun w145 g145 => ?_)
    have g := g.trans (g145)
    refine sr_pu rfl (fun _ => rd_assign (ev_t rfl)) ?_
    refine sr_sub [(0, _, _), (2, _, _), (3, _, _), (7, _, _)] (sub_cons rfl (sub_cons rfl (sub_cons rfl (sub_cons rfl (sub_nil _))))) ?_
    refine sr_nil (hK23 _ _ ?_)
    refine sc_seq fun K24 hK24 => ?_
    refine sc_seq fun K25 hK25 => ?_
    refine sc_draw [3, 3, 3, 3, 3, 3, 3, 3, 3, 3, 0, 3, 3, 3, 3, 3, 0, 3, 3, 3, 3, 3, 3, 0, 3, 3, 3, 0, 3, 3, 3, 1, 3, 3] [true, true, true, true, true, true, true, true, true, true, true, true, true, true, true, true, true, true, true, true, true, true, true, true, true, true, true, true, true, true, true, true, true, true] [0, 1, 3, 7, 15, 31, 63, 127, 255, 511, 1023, 127, 4095, 127, 8319, 24703, 57471, 123007, 262143, 524287, 1048575, 2097151, 4194303, 8388607, 1048575, 17825791, 51380223, 118489087, 1048575, 521142271, 1073741823, 2147483647, 4294967295, 8589934591] mix (by kernel_rfl) ?_
    have g := g.trans (G.drew _)
    refine sr_pu rfl (fun _ => rd_move (ev_t rfl)) ?_
    refine sr_pu rfl (fun _ => rd_eq (ev_t rfl) ev_c) ?_
    refine sr_pu rfl (fun _ => rd_move (ev_t rfl)) ?_
    refine sr_pug rfl rfl rfl (fun _ => rd_move (ev_t rfl)) ?_
    refine sr_pug rfl rfl rfl (fun _ => rd_gt (ev_u rfl id) ev_c) ?_
    refine sr_pu rfl (fun _ => rd_pick_and (ev_t rfl) (ev_u rfl id)) ?_
    refine sr_pu rfl (fun _ => rd_move (ev_t rfl)) ?_
    refine sr_pug rfl rfl rfl (fun _ => rd_move (ev_t rfl)) ?_
    refine sr_pug rfl rfl rfl (fun _ => rd_nil (ev_u rfl id)) ?_
    refine sr_pug rfl rfl rfl (fun _ => rd_field fo_scan_scanner_1 (ev_u rfl id)) ?_
    refine sr_rdg rfl rfl rfl (rd_load one_int (ev_u rfl id) (fun _ => by first | exact (hs.grow g).B.at_ rfl)) ?_
    refine sr_pug rfl rfl rfl (fun _ => rd_move (ev_t rfl)) ?_
    refine sr_pug rfl rfl rfl (fun _ => rd_add (ev_u rfl id) (ev_u rfl id) (fun _ => by omega)) ?_
    refine sr_pug rfl rfl rfl (fun _ => rd_move (ev_t rfl)) ?_
    refine sr_pug rfl rfl rfl (fun _ => rd_nil (ev_u rfl id)) ?_
    refine sr_pug rfl rfl rfl (fun _ => rd_field fo_scan_scanner_0 (ev_u rfl id)) ?_
    refine sr_rdg rfl rfl rfl (rd_load one_string (ev_u rfl id) (fun _ => by first | exact (hs.grow g).B.at_ rfl)) ?_
    refine sr_pug rfl rfl rfl (fun _ => rd_slen str_string (ev_u rfl id)) ?_
    refine sr_pug rfl rfl rfl (fun _ => rd_lt (ev_u rfl id) (ev_u rfl id)) ?_
    refine sr_pug rfl rfl rfl (fun _ => rd_move (ev_u rfl id)) ?_
    refine sr_pug rfl rfl rfl (fun _ => rd_move (ev_t rfl)) ?_
    refine sr_pug rfl rfl rfl (fun _ => rd_nil (ev_u rfl id)) ?_
    refine sr_pug rfl rfl rfl (fun _ => rd_field fo_scan_scanner_0 (ev_u rfl id)) ?_
    refine sr_rdg rfl rfl rfl (rd_load one_string (ev_u rfl id) (fun _ => by first | exact (hs.grow g).B.at_ rfl)) ?_
    refine sr_pug rfl rfl rfl (fun _ => rd_move (ev_t rfl)) ?_
    refine sr_pug rfl rfl rfl (fun _ => rd_nil (ev_u rfl id)) ?_
    refine sr_pug rfl rfl rfl (fun _ => rd_field fo_scan_scanner_1 (ev_u rfl id)) ?_
    refine sr_rdg rfl rfl rfl (rd_load one_int (ev_u rfl id) (fun _ => by first | exact (hs.grow g).B.at_ rfl)) ?_
    refine sr_pug rfl rfl rfl (fun _ => rd_move (ev_t rfl)) ?_
    refine sr_pug rfl rfl rfl (fun _ => rd_add (ev_u rfl id) (ev_u rfl id) (fun _ => by omega)) ?_
    refine sr_pug rfl rfl rfl (fun _ => rd_sidx str_string (ev_u rfl id) (ev_u rfl id) (fun hc => by have := of_decide_eq_true hc.2; omega)) ?_
    refine sr_pureg rfl rfl rfl (fun _ => (rc_call go_scan_letter ev_f (args_cons (ev_u rfl id) (args_nil)) rfl)) (fun hc => letter_ok _ _) (fun w177 g177 => ?_)
    have g := g.trans (g177)
    refine sr_pug rfl rfl rfl (fun _ => rd_pick_and (ev_u rfl id) (ev_u rfl id)) ?_
    refine sr_pu rfl (fun _ => rd_pick_or (ev_t rfl) (ev_u rfl id)) ?_
    refine sr_sub [(0, _, _), (2, _, _), (7, _, _), (179, _, _)] (sub_cons rfl (sub_cons rfl (sub_cons rfl (sub_cons rfl (sub_nil _))))) ?_
    refine sr_nil (hK25 _ _ ?_)
    refine sc_cond (ev_t rfl) (fun h8 => ?_) (fun h8 => ?_)
    · replace h8 : badD s p (runN digitB (s.drop p)) = true := h8
      have hN : nextF s p ts cs = (p, ts, cs, 4) := by unfold nextF; rw [h1, h2, h3, h4, h7, h8]; rfl
      have hs' := (hs.grow g).scn k1 k2 k3 k4
      have hb' := below_g g hs.base_le
      refine sc_seq fun K26 hK26 => ?_
      refine sc_text [3] ?_
      refine sr_pu rfl (fun _ => rd_assign ev_c) ?_
      refine sr_sub [(0, _, _), (2, _, _), (7, _, _)] (sub_cons rfl (sub_cons rfl (sub_cons rfl (sub_nil _)))) ?_
      refine sr_nil (hK26 _ _ ?_)
      refine sc_ret (t_ret1 rfl rfl ?_)
      rw [hN]; exact ⟨rfl, hs', hb'⟩
    replace h8 : badD s p (runN digitB (s.drop p)) = false := h8
    obtain ⟨ev, he1, he2⟩ := hL.err
    have hdl : ((s.drop p).take (runN digitB (s.drop p))).length = runN digitB (s.drop p) := by rw [List.length_take, List.length_drop]; omega
    refine sc_skip (hK24 _ _ ?_)
    refine sc_sub [(0, _, _), (2, _, _), (7, _, _)] (sub_cons rfl (sub_cons rfl (sub_cons rfl (sub_nil _)))) ?_
    refine sc_seq fun K27 hK27 => ?_
    refine sc_seq fun K28 hK28 => ?_
    refine sc_draw [3, 3, 3, 0, 3, 3, 3, 0, 3, 3, 3, 0, 3, 3, 3, 1, 3, 3, 3, 3, 3] [true, true, true, true, true, true, true, true, true, true, true, true, true, true, true, true, true, true, true, true, true] [0, 1, 3, 7, 0, 16, 48, 112, 0, 256, 768, 1792, 0, 7936, 16383, 32767, 65535, 131071, 131071, 262143, 1048575] mix (by kernel_rfl) ?_
    have g := g.trans (G.drew _)
    refine sr_pu rfl (fun _ => rd_move (ev_t rfl)) ?_
    refine sr_pu rfl (fun _ => rd_nil (ev_t rfl)) ?_
    refine sr_pu rfl (fun _ => rd_field fo_scan_scanner_0 (ev_t rfl)) ?_
    refine sr_rd rfl (rd_load one_string (ev_t rfl) (fun _ => by first | exact (hs.grow g).B.at_ rfl)) ?_
    refine sr_pu rfl (fun _ => rd_move (ev_t rfl)) ?_
    refine sr_pu rfl (fun _ => rd_nil (ev_t rfl)) ?_
    refine sr_pu rfl (fun _ => rd_field fo_scan_scanner_1 (ev_t rfl)) ?_
    refine sr_rd rfl (rd_load one_int (ev_t rfl) (fun _ => by first | exact (hs.grow g).B.at_ rfl)) ?_
    refine sr_pu rfl (fun _ => rd_move (ev_t rfl)) ?_
    refine sr_pu rfl (fun _ => rd_nil (ev_t rfl)) ?_
    refine sr_pu rfl (fun _ => rd_field fo_scan_scanner_1 (ev_t rfl)) ?_
    refine sr_rd rfl (rd_load one_int (ev_t rfl) (fun _ => by first | exact (hs.grow g).B.at_ rfl)) ?_
    refine sr_pu rfl (fun _ => rd_move (ev_t rfl)) ?_
    refine sr_pu rfl (fun _ => rd_add (ev_t rfl) (ev_t rfl) (fun _ => by omega)) ?_
    refine sr_pu rfl (fun _ => rd_ssl str_string (ev_t rfl) (ev_t rfl) (ev_t rfl) (fun _ => by omega)) ?_
    refine sr_call rfl (rc_call go_strconv_ParseInt ev_f (args_cons (ev_t rfl) (args_cons ev_c (args_cons ev_c (args_nil)))) rfl) (parse_ok _ (by rw [e]; exact digits_allD s p) (by rw [e]; intro h0; have h0 := congrArg List.length h0; rw [show (List.take (runN digitB (s.drop p)) (List.drop (p : Int).toNat s)).length = runN digitB (s.drop p) from hdl] at h0; simp at h0; omega) (by rw [e]; show ((s.drop p).take (runN digitB (s.drop p))).length ≤ 20000; omega) _ ev (cell_grow g he1) he2) ?_
    rintro v196 w196 ⟨⟨x, er, rfl, her, hnil⟩, g196⟩
    refine ⟨fun _ => g196, ?_⟩
    have g := g.trans g196
    replace hnil : nilV er = decide (valN 0 ((s.drop p).take (runN digitB (s.drop p))) < 9223372036854775808) := by rw [e] at hnil; exact hnil
    refine sr_pu rfl (fun _ => rd_move (ev_t rfl)) ?_
    refine sr_pu rfl (fun _ => rd_extract (ev_t rfl) rfl) ?_
    refine sr_pu rfl (fun _ => rd_extract (ev_t rfl) rfl) ?_
    refine sr_pu rfl (fun _ => rd_assign (ev_t rfl)) ?_
    refine sr_pu rfl (fun _ => rd_assign (ev_t rfl)) ?_
    refine sr_sub [(0, _, _), (2, _, _), (7, _, _), (9, _, _)] (sub_cons rfl (sub_cons rfl (sub_cons rfl (sub_cons rfl (sub_nil _))))) ?_
    refine sr_nil (hK28 _ _ ?_)
    refine sc_seq fun K29 hK29 => ?_
    refine sc_text [3, 3] ?_
    refine sr_pu rfl (fun _ => rd_move (ev_t rfl)) ?_
    refine sr_pu rfl (fun _ => rd_ine if_error (ev_t rfl) her) ?_
    refine sr_sub [(0, _, _), (2, _, _), (7, _, _), (200, _, _)] (sub_cons rfl (sub_cons rfl (sub_cons rfl (sub_cons rfl (sub_nil _))))) ?_
    refine sr_nil (hK29 _ _ ?_)
    refine sc_cond (ev_t rfl) (fun h9 => ?_) (fun h9 => ?_)
    · have h9 : decide (valN 0 ((s.drop p).take (runN digitB (s.drop p))) < 9223372036854775808) = false := by replace h9 : (!nilV er) = true := h9; rw [hnil] at h9; simpa using h9
      have hN : nextF s p ts cs = (p, ts, cs, 4) := by unfold nextF; rw [h1, h2, h3, h4, h7, h8, h9]; rfl
      have hs' := (hs.grow g).scn k1 k2 k3 k4
      have hb' := below_g g hs.base_le
      refine sc_seq fun K30 hK30 => ?_
      refine sc_text [3] ?_
      refine sr_pu rfl (fun _ => rd_assign ev_c) ?_
      refine sr_sub [(0, _, _), (2, _, _), (7, _, _)] (sub_cons rfl (sub_cons rfl (sub_cons rfl (sub_nil _)))) ?_
      refine sr_nil (hK30 _ _ ?_)
      refine sc_ret (t_ret1 rfl rfl ?_)
      rw [hN]; exact ⟨rfl, hs', hb'⟩
    have h9 : decide (valN 0 ((s.drop p).take (runN digitB (s.drop p))) < 9223372036854775808) = true := by replace h9 : (!nilV er) = false := h9; rw [hnil] at h9; simpa using h9
    have hN : nextF s p ts cs = (p + runN digitB (s.drop p), ts ++ [⟨2, (s.drop p).take (runN digitB (s.drop p)), p⟩], cs, 0) := by unfold nextF; rw [h1, h2, h3, h4, h7, h8, h9]; rfl
    refine sc_skip (hK27 _ _ ?_)
    refine sc_sub [(0, _, _), (2, _, _), (7, _, _)] (sub_cons rfl (sub_cons rfl (sub_cons rfl (sub_nil _)))) ?_
    refine sc_text [3, 3, 2] ?_
    refine sr_pu rfl (fun _ => rd_move (ev_t rfl)) ?_
    refine sr_pu rfl (fun _ => rd_move (ev_t rfl)) ?_
    refine sr_call rfl (rc_call go_scan_scanner_put ev_f (args_cons (ev_t rfl) (args_cons ev_c (args_cons (ev_t rfl) (args_nil)))) rfl) (put_ok base b s p ts cs _ _ _ ((hs.grow g).scn k1 k2 k3 k4) hn hf) ?_
    rintro v203 w203 ⟨rfl, hs', hb'⟩
    refine ⟨fun h => absurd h (by decide), ?_⟩
    have hb' := (below_g g hs.base_le).trans hb'
    refine sr_sub [(2, _, _)] (sub_cons rfl (sub_nil _)) ?_
    refine sr_nil (hK3 _ _ ?_)
    refine sc_seq fun K31 hK31 => ?_
    refine sc_text [3] ?_
    refine sr_pu rfl (fun _ => rd_assign ev_c) ?_
    refine sr_nil (hK31 _ _ ?_)
    refine sc_ret (t_ret1 rfl rfl ?_)
    rw [hN]; exact ⟨rfl, hs', hb'⟩
  replace h7 : digitB (cAt s p) = false := h7
  refine sc_seq fun K32 hK32 => ?_
  refine sc_seq fun K33 hK33 => ?_
  refine sc_text [0, 3] ?_
  refine sr_rd rfl (rd_loads agg_27_string ev_g rfl (fun _ => (hL.grow g).ops)) ?_
  refine sr_pu rfl (fun _ => rd_move ev_c) ?_
  refine sr_sub [(0, _, _), (2, _, _), (21, _, _), (22, _, _)] (sub_cons rfl (sub_cons rfl (sub_cons rfl (sub_cons rfl (sub_nil _))))) ?_
  refine sr_nil (hK33 _ _ ?_)
  refine sc_block ?_
  refine sc_loop (fun (i : Nat) u => i ≤ 27 ∧ (∀ j < i, preB (opsL.getD j []) (s.drop p) = false) ∧ G w u) (fun i => [(0, True, .pointer (some ⟨b, 0, none⟩)), (21, True, .agg (opsL.map Str).toArray), (22, True, .int .i64 i)]) (fun i => 27 - i) 0 ⟨by omega, by intro j hj; omega, g⟩ (sub_cons rfl (sub_cons rfl (sub_cons rfl (sub_nil _)))) ?_
  rintro i u ⟨hi, hpre, g⟩
  refine sc_seq fun K34 hK34 => ?_
  refine sc_text [3] ?_
  refine sr_pu rfl (fun _ => rd_lt (ev_t rfl) ev_c) ?_
  refine sr_nil (hK34 _ _ ?_)
  refine sc_seq fun K35 hK35 => ?_
  refine sc_cond (ev_t rfl) (fun h10 => ?_) (fun h10 => ?_)
  · simp only [decide_eq_true_eq] at h10
    have hi27 : i < 27 := by omega
    refine sc_skip (hK35 _ _ ?_)
    refine sc_sub [(0, _, _), (21, _, _), (22, _, _)] (sub_cons rfl (sub_cons rfl (sub_cons rfl (sub_nil _)))) ?_
    refine sc_seq fun K36 hK36 => ?_
    refine sc_block ?_
    refine sc_seq fun K37 hK37 => ?_
    refine sc_text [3, 3] ?_
    refine sr_pu rfl (fun _ => rd_aidx ar_27_string (ev_t rfl) (ev_t rfl) (fun _ => by omega) (fun _ => opsL_at hi27)) ?_
    refine sr_pu rfl (fun _ => rd_assign (ev_t rfl)) ?_
    refine sr_sub [(0, _, _), (11, _, _), (21, _, _), (22, _, _)] (sub_cons rfl (sub_cons rfl (sub_cons rfl (sub_cons rfl (sub_nil _))))) ?_
    refine sr_nil (hK37 _ _ ?_)
    refine sc_seq fun K38 hK38 => ?_
    refine sc_draw [3, 3, 3, 0, 3, 3, 3, 0, 3, 3, 1] [true, true, true, true, true, true, true, true, true, true, true] [0, 1, 3, 7, 0, 16, 48, 112, 255, 0, 1023] mix (by kernel_rfl) ?_
    have g := g.trans (G.drew _)
    refine sr_pu rfl (fun _ => rd_move (ev_t rfl)) ?_
    refine sr_pu rfl (fun _ => rd_nil (ev_t rfl)) ?_
    refine sr_pu rfl (fun _ => rd_field fo_scan_scanner_0 (ev_t rfl)) ?_
    refine sr_rd rfl (rd_load one_string (ev_t rfl) (fun _ => by first | exact (hs.grow g).B.at_ rfl)) ?_
    refine sr_pu rfl (fun _ => rd_move (ev_t rfl)) ?_
    refine sr_pu rfl (fun _ => rd_nil (ev_t rfl)) ?_
    refine sr_pu rfl (fun _ => rd_field fo_scan_scanner_1 (ev_t rfl)) ?_
    refine sr_rd rfl (rd_load one_int (ev_t rfl) (fun _ => by first | exact (hs.grow g).B.at_ rfl)) ?_
    refine sr_pu rfl (fun _ => rd_ssl_from str_string (ev_t rfl) (ev_t rfl) (fun _ => by omega)) ?_
    refine sr_pu rfl (fun _ => rd_move (ev_t rfl)) ?_
    refine sr_pure rfl (rc_call go_strings_HasPrefix ev_f (args_cons (ev_t rfl) (args_cons (ev_t rfl) (args_nil))) rfl) (shasprefix_ok _ _ _) (fun w35 g35 => ?_)
    have g := g.trans (g35)
    refine sr_sub [(0, _, _), (11, _, _), (21, _, _), (22, _, _), (35, _, _)] (sub_cons rfl (sub_cons rfl (sub_cons rfl (sub_cons rfl (sub_cons rfl (sub_nil _)))))) ?_
    refine sr_nil (hK38 _ _ ?_)
    refine sc_cond (ev_t rfl) (fun h11 => ?_) (fun h11 => ?_)
    · replace h11 : preB (opsL.getD i []) (s.drop p) = true := h11
      have h0 := opLen_some hi27 hpre h11
      have hn := opsL_pos i hi27
      have hf : p + (opsL.getD i []).length ≤ s.length := by have := (preB_len h11).1; rw [List.length_drop] at this; omega
      have hN : nextF s p ts cs = (p + (opsL.getD i []).length, ts ++ [⟨4, (s.drop p).take (opsL.getD i []).length, p⟩], cs, 0) := by
        unfold nextF; rw [h1, h2, h3, h4, h7, h0, show Nat.beq (opsL.getD i []).length 0 = false by rw [Bool.eq_false_iff]; intro h; have := Nat.eq_of_beq_eq_true h; omega]; rfl
      refine sc_seq fun K39 hK39 => ?_
      refine sc_text [3, 3, 3, 2] ?_
      refine sr_pu rfl (fun _ => rd_move (ev_t rfl)) ?_
      refine sr_pu rfl (fun _ => rd_move (ev_t rfl)) ?_
      refine sr_pu rfl (fun _ => rd_slen str_string (ev_t rfl)) ?_
      refine sr_call rfl (rc_call go_scan_scanner_put ev_f (args_cons (ev_t rfl) (args_cons ev_c (args_cons (ev_t rfl) (args_nil)))) rfl) (put_ok base b s p ts cs _ _ _ ((hs.grow g).scn k1 k2 k3 k4) hn hf) ?_
      rintro v39 w39 ⟨rfl, hs', hb'⟩
      refine ⟨fun h => absurd h (by decide), ?_⟩
      have hb' := (below_g g hs.base_le).trans hb'
      refine sr_sub [(0, _, _), (21, _, _), (22, _, _)] (sub_cons rfl (sub_cons rfl (sub_cons rfl (sub_nil _)))) ?_
      refine sr_nil (hK39 _ _ ?_)
      refine sc_seq fun K40 hK40 => ?_
      refine sc_text [3] ?_
      refine sr_pu rfl (fun _ => rd_assign ev_c) ?_
      refine sr_nil (hK40 _ _ ?_)
      refine sc_sub [(0, _, _), (2, _, _), (21, _, _), (22, _, _)] (sub_cons rfl (sub_cons rfl (sub_cons rfl (sub_cons rfl (sub_nil _))))) ?_
      refine sc_ret (t_ret1 rfl rfl ?_)
      rw [hN]; exact ⟨rfl, hs', hb'⟩
    (try simp only [bsimp] at h11)
    refine sc_skip (hK36 _ _ ?_)
    refine sc_sub [(0, _, _), (21, _, _), (22, _, _)] (sub_cons rfl (sub_cons rfl (sub_cons rfl (sub_nil _)))) ?_
    refine sc_text [3, 3] ?_
    refine sr_pu rfl (fun _ => rd_add (ev_t rfl) ev_c (fun _ => by omega)) ?_
    refine sr_pu rfl (fun _ => rd_move (ev_t rfl)) ?_
    refine sr_sub [(0, _, _), (21, _, _), (22, _, _)] (sub_cons rfl (sub_cons rfl (sub_cons rfl (sub_nil _)))) ?_
    refine sr_nil (fun a ha => ?_)
    exact ⟨i + 1, ha, ⟨by omega, by
      intro j hj
      by_cases e : j = i
      · rw [e]; exact h11
      · exact hpre j (by omega), g⟩, by omega⟩
  simp only [decide_eq_false_iff_not] at h10
  have hi27 : i = 27 := by omega
  subst hi27
  have h0 := opLen_none hpre
  have hN : nextF s p ts cs = (p, ts, cs, 4) := by unfold nextF; rw [h1, h2, h3, h4, h7, h0]; rfl
  have hs' := (hs.grow g).scn k1 k2 k3 k4
  have hb' := below_g g hs.base_le
  refine sc_exit rfl (hK32 _ _ ?_)
  refine sc_sub [] (sub_nil _) ?_
  refine sc_seq fun K41 hK41 => ?_
  refine sc_text [3] ?_
  refine sr_pu rfl (fun _ => rd_assign ev_c) ?_
  refine sr_nil (hK41 _ _ ?_)
  refine sc_ret (t_ret1 rfl rfl ?_)
  rw [hN]; exact ⟨rfl, hs', hb'⟩
end Go.Rk
namespace Go.Rk
open Go Go.RowKit
def goF (s : List UInt8) : Nat → Nat → List Tok → List Tok → Nat × List Tok × List Tok × Int
  | 0, p, ts, cs => (p, ts, cs, 0)
  | f + 1, p, ts, cs => bif decide (p < s.length) then bif decide ((nextF s p ts cs).2.2.2 = 0) then goF s f (nextF s p ts cs).1 (nextF s p ts cs).2.1 (nextF s p ts cs).2.2.1 else nextF s p ts cs else (p, ts, cs, 0)
def allF (s : List UInt8) : Nat × List Tok × List Tok × Int := bif decide ((20000 : Int) < s.length) then (0, [], [], 3) else goF s s.length 0 [] []
theorem nextF_lt {s : List UInt8} {p : Nat} {ts cs : List Tok} (h : p < s.length) (he : (nextF s p ts cs).2.2.2 = 0) : p < (nextF s p ts cs).1 := by
  unfold nextF at he ⊢
  cases h1 : decide (cAt s p = 10)
  · cases h2 : ((decide (cAt s p = 32) || decide (cAt s p = 9)) || decide (cAt s p = 13))
    · cases h3 : preB [47, 47] (s.drop p)
      · cases h4 : letterB (cAt s p)
        · cases h7 : digitB (cAt s p)
          · cases h8 : Nat.beq (opLen (s.drop p)) 0
            · simp only [cond_true, cond_false]
              have : opLen (s.drop p) ≠ 0 := by intro h0; rw [h0] at h8; cases h8
              omega
            · rw [h1, h2, h3, h4, h7, h8] at he; simp at he
          · have := runN_pos (q := digitB) h h7
            rw [h1, h2, h3, h4, h7] at he
            cases h8 : badD s p (runN digitB (s.drop p))
            · rw [h8] at he
              cases h9 : decide (valN 0 ((s.drop p).take (runN digitB (s.drop p))) < 9223372036854775808)
              · rw [h9] at he; simp at he
              · simp only [cond_true, cond_false]; omega
            · rw [h8] at he; simp at he
        · have := runN_pos (q := isAlnum) h (by rw [isAlnum, h4]; rfl)
          rw [h1, h2, h3, h4] at he
          cases h5 : decide ((32 : Int) < runN isAlnum (s.drop p))
          · simp only [cond_true, cond_false]; omega
          · rw [h5] at he; simp at he
      · have := runN_pos (q := isNotLf) h (by rw [isNotLf, h1]; rfl)
        simp only [cond_true, cond_false]; omega
    · simp only [cond_true, cond_false]; omega
  · simp only [cond_true, cond_false]; omega
theorem all_ok (s : List UInt8) (w : World) (hL : Laid w) (hb3 : 4 ≤ w.heap.size) :
    Ret PP fn_scan_all #[Str s] w fun v w' => ∃ b ta tc ca cc, v = .tuple #[.pointer (some ⟨b, 0, none⟩), .int .i64 (allF s).2.2.2] ∧ SA w.heap.size b s (allF s).1 (allF s).2.1 (allF s).2.2.1 ta tc ca cc w' ∧ G w w' := by
  have g := G.refl w
  refine ret_of_sc (m := 27) func_scan_all rfl rfl [(0, True, _)] (sub_cons rfl (sub_nil _)) ?_
  refine sc_seq fun K1 hK1 => ?_
  refine sc_text [3, 3] ?_
  refine sr_pu rfl (fun _ => rd_assign ev_c) ?_
  refine sr_pu rfl (fun _ => rd_assign ev_c) ?_
  refine sr_nil (hK1 _ _ ?_)
  refine sc_seq fun K2 hK2 => ?_
  refine sc_text [3, 3, 1, 3] ?_
  refine sr_pu rfl (fun _ => rd_move (ev_t rfl)) ?_
  refine sr_pu rfl (fun _ => rd_build [_, _, _, _] ze_scan_scanner rfl pl_scan_scanner (parts_cons (ev_t rfl) (parts_nil)) rfl) ?_
  refine sr_box rfl (ev_t rfl) rfl ?_
  intro b8 w8 N8
  have l8 := N8.ge g
  have g := g.trans (N8.g)
  have B8 := N8.blk
  refine sr_pu rfl (fun _ => rd_assign (ev_t rfl)) ?_
  refine sr_sub [(0, _, _), (2, _, _), (3, _, _), (4, _, _)] (sub_cons rfl (sub_cons rfl (sub_cons rfl (sub_cons rfl (sub_nil _))))) ?_
  refine sr_nil (hK2 _ _ ?_)
  refine sc_seq fun K3 hK3 => ?_
  refine sc_seq fun K4 hK4 => ?_
  refine sc_text [3, 3, 3] ?_
  refine sr_pu rfl (fun _ => rd_move (ev_t rfl)) ?_
  refine sr_pu rfl (fun _ => rd_slen str_string (ev_t rfl)) ?_
  refine sr_pu rfl (fun _ => rd_gt (ev_t rfl) ev_c) ?_
  refine sr_sub [(0, _, _), (2, _, _), (3, _, _), (4, _, _), (11, _, _)] (sub_cons rfl (sub_cons rfl (sub_cons rfl (sub_cons rfl (sub_cons rfl (sub_nil _)))))) ?_
  refine sr_nil (hK4 _ _ ?_)
  refine sc_cond (ev_t rfl) (fun h1 => ?_) (fun h1 => ?_)
  · have hN : allF s = (0, [], [], 3) := by unfold allF; rw [h1]; rfl
    refine sc_seq fun K5 hK5 => ?_
    refine sc_text [3, 3, 3] ?_
    refine sr_pu rfl (fun _ => rd_move (ev_t rfl)) ?_
    refine sr_pu rfl (fun _ => rd_assign (ev_t rfl)) ?_
    refine sr_pu rfl (fun _ => rd_assign ev_c) ?_
    refine sr_sub [(0, _, _), (2, _, _), (3, _, _), (4, _, _)] (sub_cons rfl (sub_cons rfl (sub_cons rfl (sub_cons rfl (sub_nil _))))) ?_
    refine sr_nil (hK5 _ _ ?_)
    refine sc_ret (t_rets (ts := [2, 3]) (vs := [_, _]) rfl rfl rfl ?_)
    rw [hN]; exact ⟨b8, none, 0, none, 0, rfl, ⟨B8, l8, own_none _ _ _ _, own_none _ _ _ _, (by intro h; cases h), (by intro h; cases h), (by intro k h; cases h)⟩, g⟩
  have hN : allF s = goF s s.length 0 [] [] := by unfold allF; rw [h1]; rfl
  simp only [decide_eq_false_iff_not] at h1
  refine sc_skip (hK3 _ _ ?_)
  refine sc_sub [(0, _, _), (2, _, _), (3, _, _), (4, _, _)] (sub_cons rfl (sub_cons rfl (sub_cons rfl (sub_cons rfl (sub_nil _))))) ?_
  refine sc_seq fun K6 hK6 => ?_
  refine sc_block ?_
  refine sc_loop (fun (x : Nat × List Tok × List Tok × Nat) u => Scn w.heap.size b8 s x.1 x.2.1 x.2.2.1 u ∧ s.length - x.1 ≤ x.2.2.2 ∧ goF s x.2.2.2 x.1 x.2.1 x.2.2.1 = goF s s.length 0 [] [] ∧ G w u) (fun _ => [(0, True, Str s), (4, True, .pointer (some ⟨b8, 0, none⟩))]) (fun x => s.length - x.1) (0, [], [], s.length)
    ⟨(show SA w.heap.size b8 s 0 [] [] none 0 none 0 w8 from ⟨B8, l8, own_none _ _ _ _, own_none _ _ _ _, (by intro h; cases h), (by intro h; cases h), (by intro k h; cases h)⟩).scn (Nat.zero_le _) (Nat.zero_le _) (Nat.zero_le _) (by omega), Nat.sub_le _ _, rfl, g⟩ (sub_cons rfl (sub_cons rfl (sub_nil _))) ?_
  rintro ⟨p, ts, cs, f⟩ u ⟨hs, hf, he, g⟩
  simp only at hs hf he
  obtain ⟨ta, tc, ca, cc, hA, k1, k2, k3, k4⟩ := hs.sa
  refine sc_seq fun K7 hK7 => ?_
  refine sc_seq fun K8 hK8 => ?_
  refine sc_text [3, 3, 3, 0, 3, 3, 3] ?_
  refine sr_pu rfl (fun _ => rd_move (ev_t rfl)) ?_
  refine sr_pu rfl (fun _ => rd_nil (ev_t rfl)) ?_
  refine sr_pu rfl (fun _ => rd_field fo_scan_scanner_1 (ev_t rfl)) ?_
  refine sr_rd rfl (rd_load one_int (ev_t rfl) (fun _ => hA.B.at_ rfl)) ?_
  refine sr_pu rfl (fun _ => rd_move (ev_t rfl)) ?_
  refine sr_pu rfl (fun _ => rd_slen str_string (ev_t rfl)) ?_
  refine sr_pu rfl (fun _ => rd_lt (ev_t rfl) (ev_t rfl)) ?_
  refine sr_sub [(0, _, _), (4, _, _), (19, _, _)] (sub_cons rfl (sub_cons rfl (sub_cons rfl (sub_nil _)))) ?_
  refine sr_nil (hK8 _ _ ?_)
  refine sc_cond (ev_t rfl) (fun h2 => ?_) (fun h2 => ?_)
  · replace h2 : p < s.length := by simp only [decide_eq_true_eq] at h2; omega
    obtain ⟨f', rfl⟩ : ∃ f', f = f' + 1 := ⟨f - 1, by omega⟩
    rw [goF, decide_eq_true h2, cond_true] at he
    refine sc_skip (hK7 _ _ ?_)
    refine sc_sub [(0, _, _), (4, _, _)] (sub_cons rfl (sub_cons rfl (sub_nil _))) ?_
    refine sc_block ?_
    refine sc_seq fun K9 hK9 => ?_
    refine sc_text [3, 2, 3] ?_
    refine sr_pu rfl (fun _ => rd_move (ev_t rfl)) ?_
    refine sr_call rfl (rc_call go_scan_scanner_next ev_f (args_cons (ev_t rfl) (args_nil)) rfl) (next_ok _ _ hb3 s p ts cs _ (hL.grow g) hs h2) ?_
    rintro v21 w21 ⟨rfl, hs', hb'⟩
    refine ⟨fun h => absurd h (by decide), ?_⟩
    have g : G w w21 := Below.trans g hb'
    refine sr_pu rfl (fun _ => rd_assign (ev_t rfl)) ?_
    refine sr_sub [(0, _, _), (4, _, _), (5, _, _)] (sub_cons rfl (sub_cons rfl (sub_cons rfl (sub_nil _)))) ?_
    refine sr_nil (hK9 _ _ ?_)
    refine sc_seq fun K10 hK10 => ?_
    refine sc_text [3, 3] ?_
    refine sr_pu rfl (fun _ => rd_move (ev_t rfl)) ?_
    refine sr_pu rfl (fun _ => rd_ne (ev_t rfl) ev_c) ?_
    refine sr_sub [(0, _, _), (4, _, _), (5, _, _), (23, _, _)] (sub_cons rfl (sub_cons rfl (sub_cons rfl (sub_cons rfl (sub_nil _))))) ?_
    refine sr_nil (hK10 _ _ ?_)
    refine sc_cond (ev_t rfl) (fun h3 => ?_) (fun h3 => ?_)
    · replace h3 : decide ((nextF s p ts cs).2.2.2 = 0) = false := by simpa using h3
      rw [h3, cond_false] at he
      refine sc_seq fun K11 hK11 => ?_
      refine sc_text [3, 3, 3, 3] ?_
      refine sr_pu rfl (fun _ => rd_move (ev_t rfl)) ?_
      refine sr_pu rfl (fun _ => rd_move (ev_t rfl)) ?_
      refine sr_pu rfl (fun _ => rd_assign (ev_t rfl)) ?_
      refine sr_pu rfl (fun _ => rd_assign (ev_t rfl)) ?_
      refine sr_sub [(0, _, _), (2, _, _), (3, _, _), (4, _, _)] (sub_cons rfl (sub_cons rfl (sub_cons rfl (sub_cons rfl (sub_nil _))))) ?_
      refine sr_nil (hK11 _ _ ?_)
      refine sc_ret (t_rets (ts := [2, 3]) (vs := [_, _]) rfl rfl rfl ?_)
      rw [hN, ← he]
      obtain ⟨ta, tc, ca, cc, hA, _⟩ := hs'.sa
      exact ⟨b8, ta, tc, ca, cc, rfl, hA, g⟩
    replace h3 : (nextF s p ts cs).2.2.2 = 0 := by simpa using h3
    have hlt := nextF_lt h2 h3
    rw [decide_eq_true h3, cond_true] at he
    refine sc_sub [(0, _, _), (4, _, _)] (sub_cons rfl (sub_cons rfl (sub_nil _))) ?_
    refine sc_skip (fun a ha => ?_)
    exact ⟨(_, _, _, f'), ha, ⟨hs', by show s.length - (nextF s p ts cs).1 ≤ f'; omega, he, g⟩, by show s.length - (nextF s p ts cs).1 < s.length - p; omega⟩
  have hp : p = s.length := by simp only [decide_eq_false_iff_not] at h2; omega
  have he : (p, ts, cs, (0 : Int)) = goF s s.length 0 [] [] := by
    rw [← he]
    cases f with
    | zero => rfl
    | succ f' => rw [goF, decide_eq_false (by omega : ¬ p < s.length)]; rfl
  refine sc_exit rfl (hK6 _ _ ?_)
  refine sc_sub [(4, _, _)] (sub_cons rfl (sub_nil _)) ?_
  refine sc_seq fun K12 hK12 => ?_
  refine sc_text [3, 3, 3] ?_
  refine sr_pu rfl (fun _ => rd_move (ev_t rfl)) ?_
  refine sr_pu rfl (fun _ => rd_assign (ev_t rfl)) ?_
  refine sr_pu rfl (fun _ => rd_assign ev_c) ?_
  refine sr_nil (hK12 _ _ ?_)
  refine sc_sub [(2, _, _), (3, _, _), (4, _, _), (26, _, _)] (sub_cons rfl (sub_cons rfl (sub_cons rfl (sub_cons rfl (sub_nil _))))) ?_
  refine sc_ret (t_rets (ts := [2, 3]) (vs := [_, _]) rfl rfl rfl ?_)
  rw [hN, ← he]
  exact ⟨b8, ta, tc, ca, cc, rfl, hA, g⟩
def scanF (s : List UInt8) : List Tok × Nat × Int := bif !decide ((allF s).2.2.2 = 0) then ([], (allF s).1, (allF s).2.2.2) else ((allF s).2.1, 0, 0)
/-- A list of tokens as a fresh row. -/
def Toks (base : Nat) (l : List Tok) (v : Value) (w : World) : Prop := w.ownsRow base ty_api_Token 3 v l.length (toksCells l)
theorem scan_ok (s : List UInt8) (w : World) (hL : Laid w) (hb3 : 4 ≤ w.heap.size) :
    Ret PP fn_scan_Scan #[Str s] w fun v w' => ∃ l, v = .tuple #[l, .int .i64 (scanF s).2.1, .int .i64 (scanF s).2.2] ∧ Toks w.heap.size (scanF s).1 l w' ∧ G w w' := by
  have g := G.refl w
  refine ret_of_sc (m := 23) func_scan_Scan rfl rfl [(0, True, _)] (sub_cons rfl (sub_nil _)) ?_
  refine sc_seq fun K1 hK1 => ?_
  refine sc_text [3, 3, 3] ?_
  refine sr_pu rfl (fun _ => rd_assign ev_c) ?_
  refine sr_pu rfl (fun _ => rd_assign ev_c) ?_
  refine sr_pu rfl (fun _ => rd_assign ev_c) ?_
  refine sr_nil (hK1 _ _ ?_)
  refine sc_seq fun K2 hK2 => ?_
  refine sc_text [3, 1, 3, 3, 3, 3, 3] ?_
  refine sr_pu rfl (fun _ => rd_move (ev_t rfl)) ?_
  refine sr_call rfl (rc_call go_scan_all ev_f (args_cons (ev_t rfl) (args_nil)) rfl) (all_ok s _ (hL.grow g) hb3) ?_
  rintro v9 w9 ⟨b, ta, tc, ca, cc, rfl, hA, g9⟩
  refine ⟨fun _ => g9, ?_⟩
  have g := g.trans g9
  refine sr_pu rfl (fun _ => rd_move (ev_t rfl)) ?_
  refine sr_pu rfl (fun _ => rd_extract (ev_t rfl) rfl) ?_
  refine sr_pu rfl (fun _ => rd_extract (ev_t rfl) rfl) ?_
  refine sr_pu rfl (fun _ => rd_assign (ev_t rfl)) ?_
  refine sr_pu rfl (fun _ => rd_assign (ev_t rfl)) ?_
  refine sr_sub [(2, _, _), (3, _, _), (4, _, _), (5, _, _), (6, _, _)] (sub_cons rfl (sub_cons rfl (sub_cons rfl (sub_cons rfl (sub_cons rfl (sub_nil _)))))) ?_
  refine sr_nil (hK2 _ _ ?_)
  refine sc_seq fun K3 hK3 => ?_
  refine sc_seq fun K4 hK4 => ?_
  refine sc_text [3, 3] ?_
  refine sr_pu rfl (fun _ => rd_move (ev_t rfl)) ?_
  refine sr_pu rfl (fun _ => rd_ne (ev_t rfl) ev_c) ?_
  refine sr_sub [(2, _, _), (3, _, _), (4, _, _), (5, _, _), (6, _, _), (13, _, _)] (sub_cons rfl (sub_cons rfl (sub_cons rfl (sub_cons rfl (sub_cons rfl (sub_cons rfl (sub_nil _))))))) ?_
  refine sr_nil (hK4 _ _ ?_)
  refine sc_cond (ev_t rfl) (fun h1 => ?_) (fun h1 => ?_)
  · (try simp only [bsimp] at h1)
    refine sc_seq fun K5 hK5 => ?_
    refine sc_draw [3, 3, 3, 0, 3, 3, 3, 3] [true, true, true, true, true, true, true, true] [0, 1, 3, 7, 0, 0, 47, 127] mix (by kernel_rfl) ?_
    have g := g.trans (G.drew _)
    have gh := G.drew w9
    refine sr_pu rfl (fun _ => rd_move (ev_t rfl)) ?_
    refine sr_pu rfl (fun _ => rd_nil (ev_t rfl)) ?_
    refine sr_pu rfl (fun _ => rd_field fo_scan_scanner_1 (ev_t rfl)) ?_
    refine sr_rd rfl (rd_load one_int (ev_t rfl) (fun _ => by first | exact (hA.grow gh).B.at_ rfl)) ?_
    refine sr_pu rfl (fun _ => rd_move (ev_t rfl)) ?_
    refine sr_pu rfl (fun _ => rd_assign ev_c) ?_
    refine sr_pu rfl (fun _ => rd_assign (ev_t rfl)) ?_
    refine sr_pu rfl (fun _ => rd_assign (ev_t rfl)) ?_
    refine sr_sub [(2, _, _), (3, _, _), (4, _, _), (5, _, _)] (sub_cons rfl (sub_cons rfl (sub_cons rfl (sub_cons rfl (sub_nil _))))) ?_
    refine sr_nil (hK5 _ _ ?_)
    refine sc_ret (t_rets (ts := [2, 3, 4]) (vs := [_, _, _]) rfl rfl rfl ?_)
    refine ⟨.slice none 0 0, ?_, ?_, g⟩
    · rw [scanF, show (!decide ((allF s).2.2.2 = 0)) = true from h1]; rfl
    · rw [scanF, show (!decide ((allF s).2.2.2 = 0)) = true from h1]; exact own_none _ _ _ _
  have gh := G.refl w9
  refine sc_skip (hK3 _ _ ?_)
  refine sc_sub [(2, _, _), (3, _, _), (4, _, _), (5, _, _)] (sub_cons rfl (sub_cons rfl (sub_cons rfl (sub_cons rfl (sub_nil _))))) ?_
  refine sc_seq fun K6 hK6 => ?_
  refine sc_text [3, 3, 3, 0, 3, 3, 3] ?_
  refine sr_pu rfl (fun _ => rd_move (ev_t rfl)) ?_
  refine sr_pu rfl (fun _ => rd_nil (ev_t rfl)) ?_
  refine sr_pu rfl (fun _ => rd_field fo_scan_scanner_2 (ev_t rfl)) ?_
  refine sr_rd rfl (rd_load one_sl_api_Token (ev_t rfl) (fun _ => by first | exact (hA.grow gh).B.at_ rfl)) ?_
  refine sr_pu rfl (fun _ => rd_assign (ev_t rfl)) ?_
  refine sr_pu rfl (fun _ => rd_assign ev_c) ?_
  refine sr_pu rfl (fun _ => rd_assign ev_c) ?_
  refine sr_sub [(2, _, _), (3, _, _), (4, _, _)] (sub_cons rfl (sub_cons rfl (sub_cons rfl (sub_nil _)))) ?_
  refine sr_nil (hK6 _ _ ?_)
  refine sc_ret (t_rets (ts := [2, 3, 4]) (vs := [_, _, _]) rfl rfl rfl ?_)
  refine ⟨.slice ta (allF s).2.1.length tc, ?_, ?_, g⟩
  · rw [scanF, show (!decide ((allF s).2.2.2 = 0)) = false from h1]; rfl
  · rw [scanF, show (!decide ((allF s).2.2.2 = 0)) = false from h1]; exact hA.ht
end Go.Rk
namespace Go.Rk
open Go Go.RowKit
set_option linter.unusedVariables false
structure Ty where
  kind : Int
  name : List UInt8
inductive Nd where
  | mk (kind : Int) (text : List UInt8) (num pos : Int) (kids : List Nd) (ty : Ty) (ref up : Int)
namespace Nd
def kind : Nd → Int | .mk k _ _ _ _ _ _ _ => k
def text : Nd → List UInt8 | .mk _ x _ _ _ _ _ _ => x
def num : Nd → Int | .mk _ _ n _ _ _ _ _ => n
def pos : Nd → Int | .mk _ _ _ a _ _ _ _ => a
def kids : Nd → List Nd | .mk _ _ _ _ ks _ _ _ => ks
def ty : Nd → Ty | .mk _ _ _ _ _ y _ _ => y
def ref : Nd → Int | .mk _ _ _ _ _ _ r _ => r
def up : Nd → Int | .mk _ _ _ _ _ _ _ u => u
end Nd
def ty0 : Ty := ⟨0, []⟩
def nd0 : Nd := .mk 0 [] 0 0 [] ty0 0 0
def tyCells (y : Ty) : List Value := [.int .i64 y.kind, Str y.name]
/-- The cells of a node whose children lie behind v. -/
def ndCells (t : Nd) (v : Value) : List Value := [.int .i64 t.kind, Str t.text, .int .i64 t.num, .int .i64 t.pos, v, .int .i64 t.ty.kind, Str t.ty.name, .int .i64 t.ref, .int .i64 t.up]
@[reducible] def tyV (y : Ty) : Value := .agg (tyCells y).toArray
@[reducible] def ndV (t : Nd) (v : Value) : Value := .agg (ndCells t v).toArray
theorem ndCells_length (t : Nd) (v : Value) : (ndCells t v).length = 9 := rfl

mutual
theorem Nd.ind_n {C : Nd → Prop} (h : ∀ t, (∀ k ∈ t.kids, C k) → C t) : ∀ t, C t
  | .mk k x n a ks y r u => h _ (Nd.ind_l h ks)
theorem Nd.ind_l {C : Nd → Prop} (h : ∀ t, (∀ k ∈ t.kids, C k) → C t) : ∀ (l : List Nd), ∀ k ∈ l, C k
  | [] => fun _ hk => by cases hk
  | t :: ts => List.forall_mem_cons.2 ⟨Nd.ind_n h t, Nd.ind_l h ts⟩
end
theorem Nd.ind {C : Nd → Prop} (h : ∀ t, (∀ k ∈ t.kids, C k) → C t) (t : Nd) : C t := Nd.ind_n h t

section
variable {α : Type}
mutual
/-- A function of a tree out of its children's. -/
def para (f : Nd → List α → α) : Nd → α
  | .mk k x n a ks y r u => f (.mk k x n a ks y r u) (paraL f ks)
def paraL (f : Nd → List α → α) : List Nd → List α
  | [] => []
  | t :: ts => para f t :: paraL f ts
end
theorem paraL_eq (f : Nd → List α → α) (l : List Nd) : paraL f l = l.map (para f) := by
  induction l with
  | nil => rfl
  | cons t ts ih => rw [paraL, ih]; rfl
theorem para_eq (f : Nd → List α → α) (t : Nd) : para f t = f t (t.kids.map (para f)) := by
  cases t with
  | mk k x n a ks y r u => rw [para, paraL_eq]; rfl
end

mutual
/-- Children as a row of cells. -/
def KRow (w : World) (D : Nat → Prop) : List Nd → List Value → Prop
  | [], xs => xs = []
  | t :: ts, xs => ∃ v r, xs = ndCells t v ++ r ∧ KNd w D t v ∧ KRow w D ts r
def KNd (w : World) (D : Nat → Prop) : Nd → Value → Prop
  | .mk _ _ _ _ ks _ _ _, v => ∃ p c, v = .slice p ks.length c ∧ ks.length ≤ c ∧ (0 < ks.length → ∃ b o, p = some ⟨b, o, none⟩ ∧ D b ∧ ∃ xs, RowAt w b o xs ∧ KRow w D ks xs)
end
/-- Children behind a slice; their blocks are all of D. -/
def Kd (w : World) (D : Nat → Prop) (ks : List Nd) (v : Value) : Prop :=
  ∃ p c, v = .slice p ks.length c ∧ ks.length ≤ c ∧ (0 < ks.length → ∃ b o, p = some ⟨b, o, none⟩ ∧ D b ∧ ∃ xs, RowAt w b o xs ∧ KRow w D ks xs)
theorem knd_eq (w : World) (D : Nat → Prop) (t : Nd) (v : Value) : KNd w D t v = Kd w D t.kids v := by
  cases t; rw [KNd]; rfl
theorem krow_nil {w : World} {D : Nat → Prop} : KRow w D [] [] := rfl
theorem krow_cons {w : World} {D : Nat → Prop} {t : Nd} {ts : List Nd} {v : Value} {r : List Value} (h : Kd w D t.kids v) (k : KRow w D ts r) : KRow w D (t :: ts) (ndCells t v ++ r) :=
  ⟨v, r, rfl, (knd_eq ..).symm ▸ h, k⟩
theorem krow_length {w : World} {D : Nat → Prop} : ∀ {ks : List Nd} {xs : List Value}, KRow w D ks xs → xs.length = ks.length * 9
  | [], xs, h => by rw [show xs = [] from h]; rfl
  | t :: ts, xs, h => by
    obtain ⟨v, r, rfl, _, h⟩ := h
    rw [List.length_append, ndCells_length, krow_length h, List.length_cons]; omega
theorem krow_append {w : World} {D : Nat → Prop} : ∀ {ks ls : List Nd} {xs ys : List Value}, KRow w D ks xs → KRow w D ls ys → KRow w D (ks ++ ls) (xs ++ ys)
  | [], ls, xs, ys, h, k => by rw [show xs = [] from h]; exact k
  | t :: ts, ls, xs, ys, h, k => by
    obtain ⟨v, r, rfl, h1, h⟩ := h
    exact ⟨v, r ++ ys, by rw [List.append_assoc], h1, krow_append h k⟩
theorem krow_one {w : World} {D : Nat → Prop} {t : Nd} {v : Value} (h : Kd w D t.kids v) : KRow w D [t] (ndCells t v) := by
  have := krow_cons h (krow_nil (w := w) (D := D)); rwa [List.append_nil] at this
theorem krow_get {w : World} {D : Nat → Prop} : ∀ {ks : List Nd} {xs : List Value} (_ : KRow w D ks xs) {i : Nat} (hi : i < ks.length), ∃ v, (xs.drop (i * 9)).take 9 = ndCells ks[i] v ∧ Kd w D ks[i].kids v
  | [], xs, h, i, hi => by cases hi
  | t :: ts, xs, h, i, hi => by
    obtain ⟨v, r, rfl, h1, h⟩ := h
    cases i with
    | zero => exact ⟨v, by simp [ndCells], knd_eq w D t v ▸ h1⟩
    | succ i =>
      have hi' : i < ts.length := by simpa using hi
      obtain ⟨v', e, k⟩ := krow_get h hi'
      refine ⟨v', ?_, k⟩
      have e9 : (ndCells t v ++ r).drop ((i + 1) * 9) = r.drop (i * 9) := by
        rw [show (i + 1) * 9 = 9 + i * 9 by omega, ← List.drop_drop]; rfl
      rw [e9]; exact e
mutual
theorem krow_frame {w w' : World} {D D' : Nat → Prop} (hD : ∀ b, D b → b < w.heap.size → D' b) (hf : ∀ b, D b → b < w.heap.size → w'.heap[b]? = w.heap[b]?) : ∀ (ks : List Nd) (xs : List Value), KRow w D ks xs → KRow w' D' ks xs
  | [], xs, h => h
  | t :: ts, xs, h => by
    obtain ⟨v, r, rfl, h1, h⟩ := h
    exact ⟨v, r, rfl, knd_frame hD hf t v h1, krow_frame hD hf ts r h⟩
theorem knd_frame {w w' : World} {D D' : Nat → Prop} (hD : ∀ b, D b → b < w.heap.size → D' b) (hf : ∀ b, D b → b < w.heap.size → w'.heap[b]? = w.heap[b]?) : ∀ (t : Nd) (v : Value), KNd w D t v → KNd w' D' t v
  | .mk k x n a ks y r u, v, h => by
    obtain ⟨p, c, rfl, hc, h⟩ := h
    refine ⟨p, c, rfl, hc, fun h0 => ?_⟩
    obtain ⟨b, o, rfl, hb, xs, hR, hX⟩ := h h0
    have hl : xs.length = ks.length * 9 := krow_length hX
    have h0' : ∃ u, xs[0]? = some u := ⟨xs[0]'(by omega), by simp⟩
    obtain ⟨u0, hu0⟩ := h0'
    have hlt : b < w.heap.size := World.block_lt_of_cell? w _ (hR 0 u0 hu0)
    have hb' := hf b hb hlt
    refine ⟨b, o, rfl, hD b hb hlt, xs, fun j u hj => ?_, krow_frame hD hf ks xs hX⟩
    have := hR j u hj
    unfold World.cell? at this ⊢
    simp only [hb']
    exact this
end
theorem kd_frame {w w' : World} {D D' : Nat → Prop} {ks : List Nd} {v : Value} (h : Kd w D ks v) (hD : ∀ b, D b → b < w.heap.size → D' b) (hf : ∀ b, D b → b < w.heap.size → w'.heap[b]? = w.heap[b]?) : Kd w' D' ks v := by
  have := knd_frame hD hf (.mk 0 [] 0 0 ks ty0 0 0) v ((knd_eq w D _ v).symm ▸ h)
  rw [knd_eq] at this; exact this
theorem Kd.mono {w : World} {D D' : Nat → Prop} {ks : List Nd} {v : Value} (h : Kd w D ks v) (hD : ∀ b, D b → b < w.heap.size → D' b) : Kd w D' ks v := kd_frame h hD fun _ _ _ => rfl
theorem KRow.mono {w : World} {D D' : Nat → Prop} {ks : List Nd} {xs : List Value} (h : KRow w D ks xs) (hD : ∀ b, D b → b < w.heap.size → D' b) : KRow w D' ks xs := krow_frame hD (fun _ _ _ => rfl) _ _ h
theorem Kd.grow {w w' : World} {D : Nat → Prop} {ks : List Nd} {v : Value} (h : Kd w D ks v) (g : G w w') : Kd w' D ks v := kd_frame h (fun _ h _ => h) fun _ _ hb => g.block hb
theorem KRow.grow {w w' : World} {D : Nat → Prop} {ks : List Nd} {xs : List Value} (h : KRow w D ks xs) (g : G w w') : KRow w' D ks xs := krow_frame (fun _ h _ => h) (fun _ _ hb => g.block hb) _ _ h
/-- Memory outside D may be written. -/
theorem Kd.keep {w w' : World} {D : Nat → Prop} {ks : List Nd} {v : Value} {row : Option Nat} (h : Kd w D ks v) (hg : w.grownBy w' row) (hne : ∀ b, D b → b < w.heap.size → some b ≠ row) : Kd w' D ks v := kd_frame h (fun _ h _ => h) fun b hb hlt => hg.block b hlt (hne b hb hlt)
theorem KRow.keep {w w' : World} {D : Nat → Prop} {ks : List Nd} {xs : List Value} {row : Option Nat} (h : KRow w D ks xs) (hg : w.grownBy w' row) (hne : ∀ b, D b → b < w.heap.size → some b ≠ row) : KRow w' D ks xs := krow_frame (fun _ h _ => h) (fun b hb hlt => hg.block b hlt (hne b hb hlt)) _ _ h
theorem Kd.lt {w : World} {D : Nat → Prop} {ks : List Nd} {v : Value} (h : Kd w D ks v) : Kd w (fun b => D b ∧ b < w.heap.size) ks v := kd_frame h (fun _ h hl => ⟨h, hl⟩) fun _ _ _ => rfl
theorem KRow.lt {w : World} {D : Nat → Prop} {ks : List Nd} {xs : List Value} (h : KRow w D ks xs) : KRow w (fun b => D b ∧ b < w.heap.size) ks xs := krow_frame (fun _ h hl => ⟨h, hl⟩) (fun _ _ _ => rfl) _ _ h
theorem kd_nil (w : World) (D : Nat → Prop) : Kd w D [] (.slice none 0 0) := ⟨none, 0, rfl, Nat.le_refl _, fun h => absurd h (Nat.lt_irrefl 0)⟩
/-- A row of one's own as children. -/
theorem kd_own {w : World} {base : Nat} {e : TypeId} {v : Value} {m : Nat} {xs : List Value} {D : Nat → Prop} {ks : List Nd} (h : w.ownsRow base e 9 v m xs) (hm : m = ks.length) (k : KRow w D ks xs) (hD : ∀ b, v.ownBlock = some b → D b) : Kd w D ks v := by
  subst hm
  obtain ⟨a, c, rfl, hc⟩ := own_sl h
  refine ⟨a, c, rfl, hc, fun h0 => ?_⟩
  obtain ⟨b, c', hv, _, hR, _⟩ := own_pos h h0
  injection hv with hv _ _
  subst hv
  exact ⟨b, 0, rfl, hD b rfl, xs, hR, k⟩
/-- A piece of memory as children. -/
theorem kd_row {w : World} {D : Nat → Prop} {ks : List Nd} {b o c : Nat} {xs : List Value} (hb : D b) (hR : RowAt w b o xs) (hX : KRow w D ks xs) (hc : ks.length ≤ c) : Kd w D ks (.slice (some ⟨b, o, none⟩) ks.length c) := ⟨_, c, rfl, hc, fun _ => ⟨b, o, rfl, hb, xs, hR, hX⟩⟩
theorem kd_at {w : World} {D : Nat → Prop} {ks : List Nd} {b o : Nat} {xs : List Value} (hR : RowAt w b o xs) (hX : KRow w D ks xs) {i : Nat} (hi : i < ks.length) : ∃ p c, RowAt w b (o + i * 9) (ndCells ks[i] (.slice p ks[i].kids.length c)) ∧ Kd w D ks[i].kids (.slice p ks[i].kids.length c) := by
  obtain ⟨v, e, k⟩ := krow_get hX hi
  have := hR.part (i * 9) 9
  rw [e] at this
  obtain ⟨p, c, rfl, k1⟩ := k
  exact ⟨p, c, this, p, c, rfl, k1⟩
/-! counting -/
def count (t : Nd) : Nat := para (fun _ l => 1 + l.sum) t
theorem count_eq (t : Nd) : count t = 1 + (t.kids.map count).sum := para_eq _ t
theorem sum_take_le (l : List Nat) (i : Nat) : (l.take i).sum ≤ l.sum := by
  conv => rhs; rw [← List.take_append_drop i l, List.sum_append]
  omega
theorem count_kid {t : Nd} {i : Nat} (h : i < t.kids.length) : ((t.kids.take i).map count).sum + count t.kids[i] + 1 ≤ count t := by
  rw [count_eq t]
  have := sum_take_le (t.kids.map count) (i + 1)
  rw [← List.map_take, List.take_add_one, List.getElem?_eq_getElem h] at this
  simp only [Option.toList_some, List.map_append, List.map_cons, List.map_nil, List.sum_append, List.sum_cons, List.sum_nil] at this
  omega
theorem count_pos (t : Nd) : 1 ≤ count t := by rw [count_eq]; omega
theorem length_le_sum : ∀ (l : List Nd), l.length ≤ (l.map count).sum
  | [] => Nat.le_refl _
  | t :: ts => by have := length_le_sum ts; have := count_pos t; simp; omega
theorem kids_le (t : Nd) : t.kids.length + 1 ≤ count t := by
  have := length_le_sum t.kids; rw [count_eq]; omega
theorem count_mem {t k : Nd} (h : k ∈ t.kids) : count k + 1 ≤ count t := by
  obtain ⟨i, hi, rfl⟩ := List.getElem_of_mem h
  have := count_kid hi; omega
theorem take_succ_map {α β : Type} (f : α → β) (l : List α) (i : Nat) (h : i < l.length) : (l.take (i + 1)).map f = (l.take i).map f ++ [f l[i]] := by
  rw [List.take_add_one, List.getElem?_eq_getElem h, List.map_append]; rfl
end Go.Rk
namespace Go.Rk
open Go Go.RowKit
def alB (c : UInt8) : Bool := letterB c.toNat || digitB c.toNat
def nameB (s : List UInt8) : Bool := !(((decide (s = []) || decide ((32 : Int) < s.length)) || !letterB (cAt s 0)) || inB kws s) && (s.drop 1).all alB
/-! the same by the scanner -/
theorem letter_not {c : Int} (h : letterB c = true) : decide (c = 10) = false ∧ ((decide (c = 32) || decide (c = 9)) || decide (c = 13)) = false ∧ decide (c = 47) = false := by
  simp only [letterB, Bool.or_eq_true, Bool.and_eq_true, decide_eq_true_eq] at h
  simp only [Bool.or_eq_false_iff, decide_eq_false_iff_not]
  omega
theorem runN_full {q : Int → Bool} : ∀ {l : List UInt8}, (∀ c ∈ l, q c.toNat = true) → runN q l = l.length
  | [], _ => rfl
  | c :: l, h => by
    rw [runN, if_pos (h c (List.mem_cons_self ..)), runN_full fun x hx => h x (List.mem_cons_of_mem _ hx)]; rfl
theorem name_run {s : List UInt8} (h : nameB s = true) : s.length ≠ 0 ∧ s.length ≤ 32 ∧ letterB (cAt s 0) = true ∧ inB kws s = false ∧ runN isAlnum s = s.length := by
  unfold nameB at h
  simp only [Bool.and_eq_true, Bool.not_eq_true', Bool.or_eq_false_iff, decide_eq_false_iff_not, Bool.not_eq_false'] at h
  obtain ⟨⟨⟨⟨h1, h2⟩, h3⟩, h4⟩, h5⟩ := h
  refine ⟨fun e => h1 (List.length_eq_zero_iff.1 e), by omega, h3, h4, runN_full fun c hc => ?_⟩
  cases s with
  | nil => cases hc
  | cons a l =>
    rcases List.mem_cons.1 hc with rfl | hc
    · have : letterB (c.toNat : Int) = true := h3
      rw [isAlnum, this]; rfl
    · exact List.all_eq_true.1 h5 c hc
theorem pre_slash {l : List UInt8} (h : decide (cAt l 0 = 47) = false) : preB [47, 47] l = false := by
  cases l with
  | nil => rfl
  | cons a l =>
    have : ¬ (a.toNat : Int) = 47 := of_decide_eq_false h
    unfold preB
    rw [Bool.and_eq_false_iff]; right
    rw [decide_eq_false_iff_not]
    intro e
    rw [List.length_cons, List.take_succ_cons] at e
    injection e with e1 _
    subst e1
    exact this rfl
theorem name_scan {s : List UInt8} (h : nameB s = true) : scanF s = ([⟨1, s, 0⟩], 0, 0) := by
  obtain ⟨h0, h1, h2, h3, h4⟩ := name_run h
  obtain ⟨a1, a2, a3⟩ := letter_not h2
  have hN : nextF s 0 [] [] = (s.length, [⟨1, s, 0⟩], [], 0) := by
    unfold nextF
    rw [a1, a2, show s.drop 0 = s from rfl, pre_slash a3, h2, h4, decide_eq_false (by omega : ¬ (32 : Int) < (s.length : Nat)), List.take_of_length_le (Nat.le_refl _), wordK, h3]
    simp
  have hG : goF s s.length 0 [] [] = (s.length, [⟨1, s, 0⟩], [], 0) := by
    obtain ⟨m, hm⟩ : ∃ m, s.length = m + 1 := ⟨s.length - 1, by omega⟩
    rw [hm, goF, decide_eq_true (by omega : 0 < s.length), hN]
    simp only [cond_true, decide_true]
    cases m with
    | zero => rw [goF, hm]
    | succ m => rw [goF, decide_eq_false (by omega), cond_false, hm]
  rw [scanF, allF, decide_eq_false (by omega : ¬ (20000 : Int) < s.length), cond_false, hG]
  rfl
def NameTok (t : Tok) : Prop := t.kind = 1 → nameB t.text = true
theorem nextF_name {s : List UInt8} {p : Nat} {ts : List Tok} (cs : List Tok) (hp : p < s.length) (h : ∀ t ∈ ts, NameTok t) : ∀ t ∈ (nextF s p ts cs).2.1, NameTok t := by
  have hn : ∀ (l : List Tok) (t : Tok), (∀ t ∈ l, NameTok t) → NameTok t → ∀ u ∈ l ++ [t], NameTok u := by
    intro l t hl ht u hu
    rcases List.mem_append.1 hu with hu | hu
    · exact hl u hu
    · rw [List.mem_singleton.1 hu]; exact ht
  unfold nextF
  cases h1 : decide (cAt s p = 10)
  · cases h2 : ((decide (cAt s p = 32) || decide (cAt s p = 9)) || decide (cAt s p = 13))
    · cases h3 : preB [47, 47] (s.drop p)
      · cases h4 : letterB (cAt s p)
        · cases h7 : digitB (cAt s p)
          · cases h8 : Nat.beq (opLen (s.drop p)) 0
            · exact hn _ _ h (fun e => by simp at e)
            · exact h
          · cases h8 : badD s p (runN digitB (s.drop p))
            · cases h9 : decide (valN 0 ((s.drop p).take (runN digitB (s.drop p))) < 9223372036854775808)
              · exact h
              · exact hn _ _ h (fun e => by simp at e)
            · exact h
        · cases h5 : decide ((32 : Int) < runN isAlnum (s.drop p))
          · refine hn _ _ h (fun e => ?_)
            simp only at e ⊢
            have hq : isAlnum (cAt s p) = true := by rw [isAlnum, h4]; rfl
            have hpos := runN_pos hp hq
            have hfit := runN_fit isAlnum hp
            have hall := runN_all isAlnum (s.drop p)
            generalize hX : (s.drop p).take (runN isAlnum (s.drop p)) = x at e hall ⊢
            have hl : x.length = runN isAlnum (s.drop p) := by rw [← hX, List.length_take, List.length_drop]; omega
            have hk : inB kws x = false := by
              cases hk : inB kws x
              · rfl
              · rw [wordK, hk] at e; cases e
            have hc : cAt x 0 = cAt s p := by
              rw [← hX]
              unfold cAt
              simp [List.getD_eq_getElem?_getD, List.getElem?_take, show 0 < runN isAlnum (s.drop p) from hpos]
            have h5' := of_decide_eq_false h5
            unfold nameB
            rw [decide_eq_false (by omega : ¬ (32 : Int) < (x.length : Nat)), hc, h4, hk, decide_eq_false (by intro e0; rw [e0] at hl; simp at hl; omega)]
            simp only [Bool.not_true, Bool.or_false, Bool.not_false, Bool.true_and]
            rw [List.all_eq_true]
            intro c hc
            exact hall c (List.mem_of_mem_drop hc)
          · exact h
      · exact h
    · exact h
  · show ∀ t ∈ nlTs p ts, NameTok t
    intro t ht
    have : nlTs p ts = ts ∨ ∃ q, nlTs p ts = ts ++ [⟨4, [59], q⟩] := by
      unfold nlTs
      cases ts.getLast? with
      | none => exact .inl rfl
      | some u => simp only []; split <;> first | exact .inl rfl | exact .inr ⟨_, rfl⟩
    rcases this with e | ⟨q, e⟩
    · rw [e] at ht; exact h t ht
    · rw [e] at ht; exact hn _ _ h (fun e => by simp at e) t ht
theorem goF_name (s : List UInt8) : ∀ (f p : Nat) (ts cs : List Tok), (∀ t ∈ ts, NameTok t) → ∀ t ∈ (goF s f p ts cs).2.1, NameTok t
  | 0, _, _, _, h => h
  | f + 1, p, ts, cs, h => by
    rw [goF]
    cases hp : decide (p < s.length)
    · exact h
    · have hn := nextF_name (ts := ts) cs (of_decide_eq_true hp) h
      cases decide ((nextF s p ts cs).2.2.2 = 0)
      · exact hn
      · exact goF_name s f _ _ _ hn
theorem scanF_name (s : List UInt8) : ∀ t ∈ (scanF s).1, NameTok t := by
  rw [scanF, allF]
  cases decide ((20000 : Int) < s.length)
  · simp only [cond_false]
    have := goF_name s s.length 0 [] [] (fun t ht => by cases ht)
    cases (!decide ((goF s s.length 0 [] []).2.2.2 = 0))
    · exact this
    · exact fun t ht => by cases ht
  · exact fun t ht => by cases ht
def tok1 (l : List Tok) : Tok := l.getD 0 ⟨0, [], 0⟩
def nameP (s : List UInt8) : Bool := ((decide ((scanF s).2.2 = 0) && decide (((scanF s).1.length : Int) = 1)) && decide ((tok1 (scanF s).1).kind = 1)) && decide ((tok1 (scanF s).1).text = s)
theorem nameP_eq (s : List UInt8) : nameP s = nameB s := by
  cases h : nameB s
  · rw [nameP, Bool.eq_false_iff]
    intro hp
    simp only [Bool.and_eq_true, decide_eq_true_eq] at hp
    obtain ⟨⟨⟨_, h2⟩, h3⟩, h4⟩ := hp
    have hm : tok1 (scanF s).1 ∈ (scanF s).1 := by
      cases hl : (scanF s).1 with
      | nil => rw [hl] at h2; simp at h2
      | cons a l => exact List.mem_cons_self ..
    have := scanF_name s _ hm h3
    rw [h4, h] at this; cases this
  · rw [nameP, name_scan h]
    simp [tok1]
def pb (p : Option Addr) : Nat := match p with | some a => a.block | none => 0
def po (p : Option Addr) : Nat := match p with | some a => a.off | none => 0
/-- A chain of comparisons, as a switch makes it. -/
def anyK : List Int → Int → Bool
  | [], _ => false
  | [a], k => decide (k = a)
  | a :: b :: l, k => decide (k = a) || anyK (b :: l) k
def anyS : List (List UInt8) → List UInt8 → Bool
  | [], _ => false
  | [a], k => decide (k = a)
  | a :: b :: l, k => decide (k = a) || anyS (b :: l) k
theorem tok1_row {w : World} {b o : Nat} {l : List Tok} (h : RowAt w b o (toksCells l)) (hl : 0 < l.length) : RowAt w b o (tokCells (tok1 l)) := by
  cases l with
  | nil => cases hl
  | cons t l =>
    have := h.part 0 3
    exact this
theorem rd_idxq {P : Program} {n : Nat} {σ : List Ent} {c : Prop} {wb : World} {ty : TypeId} {t e z by_ : Nat} {x y : Operand} {p : Option Addr} {m q : Nat} {k : IntKind} {i : Int} (ht : tyElem P t = some (e, z, by_)) (h : Ev n σ c x (.slice p m q)) (h' : Ev n σ c y (.int k i)) (hi : c → 0 ≤ i ∧ i < m) (hp : c → p = some ⟨pb p, po p, none⟩) :
    Rd P n σ c wb (.indexAddr t x y) ty (.pointer (some ⟨pb p, po p + i.toNat * z, none⟩)) := fun d pos after gd a ha hc w1 hg =>
  rd_idx (P := P) (wb := wb) ht (Ev.to h fun hc => congrArg (fun p => Value.slice p m q) (hp hc)) h' hi d pos after gd a ha hc w1 hg
theorem toks_slice {base : Nat} {l : List Tok} {v : Value} {w : World} (h : Toks base l v w) : ∃ a c, v = .slice a l.length c ∧ (0 < l.length → a = some ⟨pb a, po a, none⟩ ∧ RowAt w (pb a) (po a) (tokCells (tok1 l))) := by
  obtain ⟨a, c, rfl, _⟩ := own_sl h
  refine ⟨a, c, rfl, fun h0 => ?_⟩
  obtain ⟨b, c', hv, _, hR, _⟩ := own_pos h h0
  injection hv with hv _ _
  subst hv
  exact ⟨rfl, tok1_row hR h0⟩
end Go.Rk
namespace Go.Rk
open Go Go.RowKit
set_option linter.unusedVariables false
section
variable {α : Type} {f : α → List Value} {z : Nat}
/-- A slice whose elements are plain structs. -/
def RowF (f : α → List Value) (w : World) (l : List α) (v : Value) : Prop :=
  ∃ p c, v = .slice p l.length c ∧ l.length ≤ c ∧ (0 < l.length → ∃ b o, p = some ⟨b, o, none⟩ ∧ RowAt w b o (l.flatMap f))
theorem RowF.grow {w w' : World} {l : List α} {v : Value} (h : RowF f w l v) (g : G w w') : RowF f w' l v := by
  obtain ⟨p, c, rfl, hc, h⟩ := h
  refine ⟨p, c, rfl, hc, fun h0 => ?_⟩
  obtain ⟨b, o, rfl, hR⟩ := h h0
  exact ⟨b, o, rfl, hR.grow g⟩
end
end Go.Rk
namespace Go.Rk
open Go Go.RowKit
end Go.Rk
namespace Go.Rk
open Go Go.RowKit
set_option linter.unusedVariables false
/-! loops that carry facts on the world -/
def BlkE (b : Nat) (e : TypeId) (l : List Value) (w : World) : Prop := Blk w b e l
def andE (p q : World → Prop) (w : World) : Prop := p w ∧ q w
def nilE (w : World) : Prop := True
theorem nilE_mk (w : World) : nilE w := trivial
section
variable {P : Program} {n : Nat} {N T : Act → World → Prop} {X : List (Nat × (Act → World → Prop))} {σ : List Ent} {w : World}
theorem sc_loop3 {c : Code} {α : Type} (I : α → World → Prop) (E : World → Prop) (σc : List Ent) (σf : α → List Ent) (μ : α → Nat) (x0 : α) (h0 : I x0 w) (hE : E w) (hs : Sub (σf x0 ++ σc) σ)
    (round : ∀ x w, I x w → E w → SC P n c (fun a' w' => ∃ y, Kn n (σf y ++ σc) a' ∧ I y w' ∧ E w' ∧ μ y < μ x) X T (σf x ++ σc) w) : SC P n (.loop c) N X T σ w := by
  refine sc_loop (fun x w => I x w ∧ E w) (fun x => σf x ++ σc) μ x0 ⟨h0, hE⟩ hs fun x w ⟨h1, h2⟩ => ?_
  refine fun a ha => Code.wp_mono (fun e a w q => ?_) (round x w h1 h2 a ha)
  cases e with
  | normal => obtain ⟨y, q1, q2, q3, q4⟩ := q; exact ⟨y, q1, ⟨q2, q3⟩, q4⟩
  | _ => exact q
end
theorem krow_ones {w : World} {D : Nat → Prop} : ∀ {ls : List Nd} {news : List Value}, KRow w D ls news → onesB news = true
  | [], news, h => by rw [show news = [] from h]; rfl
  | t :: ls, news, h => by
    obtain ⟨v, r, rfl, hkn, hr⟩ := h
    rw [knd_eq] at hkn
    obtain ⟨p, c, rfl, _⟩ := hkn
    have := krow_ones hr
    unfold onesB at this ⊢
    rw [List.all_append, this, Bool.and_true]; rfl
/-! own rows -/
/-- New blocks but for some. -/
def Dx (base : Nat) (X : List Nat) (b : Nat) : Prop := base ≤ b ∧ b ∉ X
/-- A list of nodes in a row of one's own: the nodes' own blocks are all of D, the row's too. -/
def OwnK (e : TypeId) (D : Nat → Prop) (base : Nat) (w : World) (ks : List Nd) (s : Value) : Prop :=
  ∃ xs, w.ownsRow base e 9 s ks.length xs ∧ KRow w (fun b => D b ∧ some b ≠ s.ownBlock) ks xs ∧ ∀ b, s.ownBlock = some b → D b
section
variable {e : TypeId} {D : Nat → Prop} {base : Nat} {w w' : World} {ks : List Nd} {s : Value}
theorem ownK_nil (e : TypeId) (D : Nat → Prop) (base : Nat) (w : World) : OwnK e D base w [] (.slice none 0 0) := ⟨[], own_none _ _ _ _, krow_nil, fun b h => by cases h⟩
theorem OwnK.slice (h : OwnK e D base w ks s) : ∃ a c, s = .slice a ks.length c := by
  obtain ⟨xs, h1, _⟩ := h
  obtain ⟨a, c, h2, _⟩ := own_sl h1
  exact ⟨a, c, h2⟩
theorem OwnK.ge (h : OwnK e D base w ks s) : ∀ k, s.ownBlock = some k → base ≤ k := by
  obtain ⟨xs, h1, _⟩ := h
  exact fun k hk => (h1.lt k hk).1
theorem OwnK.lt (h : OwnK e D base w ks s) : ∀ k, s.ownBlock = some k → k < w.heap.size := by
  obtain ⟨xs, h1, _⟩ := h
  exact fun k hk => (h1.lt k hk).2
theorem OwnK.ne (h : OwnK e D base w ks s) {b : Nat} (hb : ¬ D b) : some b ≠ s.ownBlock := by
  obtain ⟨xs, _, _, h3⟩ := h
  exact fun he => hb (h3 b he.symm)
theorem OwnK.grow (h : OwnK e D base w ks s) (g : G w w') : OwnK e D base w' ks s := by
  obtain ⟨xs, h1, h2, h3⟩ := h
  exact ⟨xs, own_grow h1 g, h2.grow g, h3⟩
theorem OwnK.keep (h : OwnK e D base w ks s) {b : Nat} (hg : w.grownBy w' (some b)) (hb : ¬ D b) : OwnK e D base w' ks s := by
  obtain ⟨xs, h1, h2, h3⟩ := h
  refine ⟨xs, own_keep h1 hg (.inr fun he => hb (h3 b he)), h2.keep hg fun k hk _ he => ?_, h3⟩
  injection he with he
  exact hb (he ▸ hk.1)
/-- As children. -/
theorem OwnK.kd (h : OwnK e D base w ks s) {D' : Nat → Prop} (hD : ∀ b, D b → D' b) : Kd w D' ks s := by
  obtain ⟨xs, h1, h2, h3⟩ := h
  exact kd_own h1 rfl (h2.mono fun b hb _ => hD b hb.1) fun b hb => hD b (h3 b hb)
theorem OwnK.append {ls : List Nd} {news : List Value} {a' : Option Addr} {c' : Nat} {xs : List Value} (h : OwnK e D base w ks s) (hx : w.ownsRow base e 9 s ks.length xs) (hX : KRow w (fun b => D b ∧ some b ≠ s.ownBlock) ks xs)
    (hn : KRow w (fun b => D b ∧ some b ≠ s.ownBlock) ls news) (hD : D w.heap.size) (ho : w'.ownsRow base e 9 (.slice a' (ks.length + ls.length) c') (ks.length + ls.length) (xs ++ news)) (hg : w.grownBy w' s.ownBlock)
    (hat : (Value.slice a' (ks.length + ls.length) c').ownBlock = s.ownBlock ∨ (Value.slice a' (ks.length + ls.length) c').ownBlock = some w.heap.size) : OwnK e D base w' (ks ++ ls) (.slice a' (ks ++ ls).length c') := by
  have hlen : (ks ++ ls).length = ks.length + ls.length := by simp
  refine ⟨xs ++ news, by rw [hlen]; exact ho, ?_, ?_⟩
  · have h1 := krow_append hX hn
    rw [hlen]
    refine krow_frame (fun b hb hlt => ⟨hb.1, ?_⟩) (fun b hb hlt => hg.block b hlt hb.2) _ _ h1
    rcases hat with he | he <;> rw [he]
    · exact hb.2
    · intro e; injection e with e; omega
  · rw [hlen]
    intro b hb
    rcases hat with he | he <;> rw [he] at hb
    · obtain ⟨_, _, _, h3⟩ := h; exact h3 b hb
    · injection hb with hb; exact hb ▸ hD
end
section
variable {P : Program} {Z : List PanicEntry → Act → World → Prop} {ops : List Oper} {cl : List Nat} {lv : List Bool} {W0 : World} {n : Nat} {K : Act → World → Prop} {k : Nat} {rest : List Oper} {σ : List Ent} {w : World} {d : Nat} {ty : TypeId} {pos : String} {after : Array Edge}
/-- append of nodes to a row of one's own. -/
theorem sr_appendK {t e base q q' : Nat} {x y : Operand} {s zv : Value} {news : List Value} {b' o' : Nat} {D : Nat → Prop} {ks ls : List Nd} (hb : (Nat.beq (clOf cl k) 2 && Nat.blt d n) = true) (ht : tyElem P t = some (e, 9, 104)) (hzv : zeroOf P e = some zv)
    (hzs : zv.cells.size = 9) (hx : Ev n σ True x s) (hO : OwnK e D base w ks s) (hy : Ev n σ True y (.slice (some ⟨b', o', none⟩) q q')) (hq : ls.length = q) (hn : RowAt w b' o' news) (hK : KRow w (fun b => D b ∧ some b ≠ s.ownBlock) ls news)
    (hlen : ks.length + ls.length ≤ 10000000) (hbase : base ≤ w.heap.size) (hD : D w.heap.size)
    (h : ∀ a' c' w', OwnK e D base w' (ks ++ ls) (.slice a' (ks ++ ls).length c') → w.grownBy w' s.ownBlock → SR P Z ops cl lv W0 n K (k + 1) rest ((d, True, .slice a' (ks ++ ls).length c') :: σ) w') :
    SR P Z ops cl lv W0 n K k (⟨some d, .call { callee := .builtin .append, args := #[x, y], argTypes := #[t, t] }, ty, pos, after, none⟩ :: rest) σ w := by
  obtain ⟨xs, h1, h2, h3⟩ := id hO
  subst hq
  have ones := krow_ones hK
  refine sr_append hb ht hzv hzs (by decide) hx h1 hy (krow_length hK) hn ones (by simp only [maxLen]; omega) (by omega) hbase fun a' c' w' ho hg hat => ?_
  have := h a' c' w' (hO.append h1 h2 hK hD ho hg hat) hg
  rwa [List.length_append] at this
end
end Go.Rk
namespace Go.Rk
open Go Go.RowKit
/-- A tree comes back in new memory. -/
def RetNd (t : Nd) (base : Nat) (r : Value) (w : World) : Prop := ∃ p c, r = ndV t (.slice p t.kids.length c) ∧ Kd w (fun b => base ≤ b) t.kids (.slice p t.kids.length c)
def listN (t : Nd) : List Nd := para (fun t l => t :: l.flatten) t
end Go.Rk
namespace Go.Rk
open Go Go.RowKit
/-- A tree comes back, its children's blocks all of D. -/
def RetD (D : Nat → Prop) (t : Nd) (r : Value) (w : World) : Prop := ∃ p c, r = ndV t (.slice p t.kids.length c) ∧ Kd w D t.kids (.slice p t.kids.length c)
theorem RetD.grow {D : Nat → Prop} {t : Nd} {r : Value} {w w' : World} (h : RetD D t r w) (g : G w w') : RetD D t r w' := by
  obtain ⟨p, c, e, k⟩ := h
  exact ⟨p, c, e, k.grow g⟩
theorem RetD.mono {D D' : Nat → Prop} {t : Nd} {r : Value} {w : World} (h : RetD D t r w) (hD : ∀ b, D b → D' b) : RetD D' t r w := by
  obtain ⟨p, c, e, k⟩ := h
  exact ⟨p, c, e, k.mono fun b hb _ => hD b hb⟩
theorem retD_leaf (D : Nat → Prop) (t : Nd) (w : World) (h : t.kids = []) : RetD D t (ndV t (.slice none 0 0)) w := by
  refine ⟨none, 0, by rw [h]; rfl, ?_⟩
  rw [h]; exact kd_nil _ _
theorem retD_of {t : Nd} {v : Value} {w : World} {D : Nat → Prop} (h : Kd w D t.kids v) : RetD D t (ndV t v) w := by
  obtain ⟨p, c, rfl, k⟩ := h
  exact ⟨p, c, rfl, p, c, rfl, k⟩
@[reducible] def GE (n : Nat) : Nat → Prop := fun b => n ≤ b
theorem kd_one {w : World} {D : Nat → Prop} {t : Nd} {v : Value} {b : Nat} {e : TypeId} (hb : D b) (h : Blk w b e (ndCells t v)) (hk : Kd w D t.kids v) : Kd w D [t] (.slice (some ⟨b, 0, none⟩) 1 1) := kd_row hb h.row (krow_one hk) (Nat.le_refl _)
theorem OwnK.low {e : TypeId} {D : Nat → Prop} {base : Nat} {w : World} {ks : List Nd} {s : Value} (h : OwnK e D base w ks s) : OwnK e (fun b => D b ∧ b < w.heap.size) base w ks s := by
  have hlt := h.lt
  obtain ⟨xs, h1, h2, h3⟩ := h
  exact ⟨xs, h1, h2.lt.mono fun b hb _ => ⟨⟨hb.1.1, hb.2⟩, hb.1.2⟩, fun b hb => ⟨h3 b hb, hlt b hb⟩⟩
theorem OwnK.mono {e : TypeId} {D D' : Nat → Prop} {base : Nat} {w : World} {ks : List Nd} {s : Value} (h : OwnK e D base w ks s) (hD : ∀ b, D b → D' b) : OwnK e D' base w ks s := by
  obtain ⟨xs, h1, h2, h3⟩ := h
  exact ⟨xs, h1, h2.mono fun b hb _ => ⟨hD b hb.1, hb.2⟩, fun b hb => hD b (h3 b hb)⟩
end Go.Rk
namespace Go.Rk
open Go Go.RowKit
def typeNames : List (List UInt8) := [[105, 110, 116], [98, 111, 111, 108], [91, 93, 105, 110, 116], [99, 104, 97, 110], [102, 117, 110, 99], [109, 117, 116, 101, 120], [114, 119, 109, 117, 116, 101, 120], [103, 114, 111, 117, 112], [111, 110, 99, 101], [97, 116, 111, 109, 105, 99]]
def typeNameB (s : List UInt8) : Bool := anyS typeNames s
def leafB (t : Nd) : Bool := decide ((t.kids.length : Int) = 0)
def isTypeB (t : Nd) : Bool := bif decide (t.kind = 8) then nameB t.text && leafB t else bif decide (t.kind = 7) then typeNameB t.text && leafB t else false
def binOps : List (List UInt8) := [[124, 124], [38, 38], [61, 61], [33, 61], [60], [60, 61], [62], [62, 61], [43], [45], [42], [47], [37]]
end Go.Rk
namespace Go.Rk
open Go Go.RowKit
def rng (z : Int) : Prop := -9223372036854775808 ≤ z ∧ z ≤ 9223372036854775807
def okNd (t : Nd) : Prop := para (fun t l => rng t.kind ∧ rng t.num ∧ rng t.pos ∧ rng t.ty.kind ∧ rng t.ref ∧ rng t.up ∧ ∀ p ∈ l, p) t
end Go.Rk
namespace Go.Rk
open Go Go.RowKit Go.ChangeShapes Go.WideShapes
abbrev bulk {H : Type} : DataW H → Nat := Go.Proofs.YtheifopckahdiaaDoor.Rows.uptoBulk
abbrev bulkAll {H : Type} : List (DataW H) → Nat := Go.Proofs.YtheifopckahdiaaDoor.Rows.uptoBulkAll
noncomputable def fieldsOf' (t : TypeId) : Option (List (Nat × Nat)) := match PP.underlying t with | some (.struct fs) => some (fs.toList.map fun f => (f.type, f.offset)) | _ => none
section
variable {H : Type} {enc : TypeId × Value → H} {w : World} {base : Nat} {sp : Nat → Bool} {held : Bool}
end
end Go.Rk
