/- Merged texts of one road: ScanF, Tree, Name, RowF, RefA, Own, RefB, RefC, EngD, EngR. Conditions: each text's own. -/
import Derived.Test.YtheifopckahdiaaDoorB03
import Derived.Test.YtheifopckahdiaaDoorB02
import Derived.KernelRfl
import Derived.RangeFuncOwn
import Derived.Test.YtheifopckahdiaaDoorB01
set_option linter.unusedSimpArgs false
set_option linter.unusedVariables false
namespace Go.Rk
open Go Go.RowKit
def goF (s : List UInt8) : Nat → Nat → List Tok → List Tok → Nat × List Tok × List Tok × Int
  | 0, p, ts, cs => (p, ts, cs, 0)
  | f + 1, p, ts, cs => bif decide (p < s.length) then bif decide ((nextF s p ts cs).2.2.2 = 0) then goF s f (nextF s p ts cs).1 (nextF s p ts cs).2.1 (nextF s p ts cs).2.2.1 else nextF s p ts cs else (p, ts, cs, 0)
def allF (s : List UInt8) : Nat × List Tok × List Tok × Int := bif decide ((20000 : Int) < s.length) then (0, [], [], 3) else goF s s.length 0 [] []
theorem nextF_lt {s : List UInt8} {p : Nat} {ts cs : List Tok} (h : p < s.length) (he : (nextF s p ts cs).2.2.2 = 0) : p < (nextF s p ts cs).1 := by
  unfold nextF at he ⊢
  cases h1 : decide (cAt s p = 10)
  · cases h2 : ((decide (cAt s p = 32) || decide (cAt s p = 9)) || decide (cAt s p = 13))
    · cases h3 : preB [47, 47] (s.drop p)
      · cases h4 : letterB (cAt s p)
        · cases h7 : digitB (cAt s p)
          · cases h8 : Nat.beq (opLen (s.drop p)) 0
            · simp only [cond_true, cond_false]
              have : opLen (s.drop p) ≠ 0 := by intro h0; rw [h0] at h8; cases h8
              omega
            · rw [h1, h2, h3, h4, h7, h8] at he; simp at he
          · have := runN_pos (q := digitB) h h7
            rw [h1, h2, h3, h4, h7] at he
            cases h8 : badD s p (runN digitB (s.drop p))
            · rw [h8] at he
              cases h9 : decide (valN 0 ((s.drop p).take (runN digitB (s.drop p))) < 9223372036854775808)
              · rw [h9] at he; simp at he
              · simp only [cond_true, cond_false]; omega
            · rw [h8] at he; simp at he
        · have := runN_pos (q := isAlnum) h (by rw [isAlnum, h4]; rfl)
          rw [h1, h2, h3, h4] at he
          cases h5 : decide ((32 : Int) < runN isAlnum (s.drop p))
          · simp only [cond_true, cond_false]; omega
          · rw [h5] at he; simp at he
      · have := runN_pos (q := isNotLf) h (by rw [isNotLf, h1]; rfl)
        simp only [cond_true, cond_false]; omega
    · simp only [cond_true, cond_false]; omega
  · simp only [cond_true, cond_false]; omega
theorem all_ok (s : List UInt8) (w : World) (hL : Laid w) (hb3 : 4 ≤ w.heap.size) :
    Ret PP fn_scan_all #[Str s] w fun v w' => ∃ b ta tc ca cc, v = .tuple #[.pointer (some ⟨b, 0, none⟩), .int .i64 (allF s).2.2.2] ∧ SA w.heap.size b s (allF s).1 (allF s).2.1 (allF s).2.2.1 ta tc ca cc w' ∧ G w w' := by
  have g := G.refl w
  refine ret_of_sc (m := 27) func_scan_all rfl rfl [(0, True, _)] (sub_cons rfl (sub_nil _)) ?_
  refine sc_seq fun K1 hK1 => ?_
  refine sc_text [3, 3] ?_
  refine sr_pu rfl (fun _ => rd_assign ev_c) ?_
  refine sr_pu rfl (fun _ => rd_assign ev_c) ?_
  refine sr_nil (hK1 _ _ ?_)
  refine sc_seq fun K2 hK2 => ?_
  refine sc_text [3, 3, 1, 3] ?_
  refine sr_pu rfl (fun _ => rd_move (ev_t rfl)) ?_
  refine sr_pu rfl (fun _ => rd_build [_, _, _, _] ze_scan_scanner rfl pl_scan_scanner (parts_cons (ev_t rfl) (parts_nil)) rfl) ?_
  refine sr_box rfl (ev_t rfl) rfl ?_
  intro b8 w8 N8
  have l8 := N8.ge g
  have g := g.trans (N8.g)
  have B8 := N8.blk
  refine sr_pu rfl (fun _ => rd_assign (ev_t rfl)) ?_
  refine sr_sub [(0, _, _), (2, _, _), (3, _, _), (4, _, _)] (sub_cons rfl (sub_cons rfl (sub_cons rfl (sub_cons rfl (sub_nil _))))) ?_
  refine sr_nil (hK2 _ _ ?_)
  refine sc_seq fun K3 hK3 => ?_
  refine sc_seq fun K4 hK4 => ?_
  refine sc_text [3, 3, 3] ?_
  refine sr_pu rfl (fun _ => rd_move (ev_t rfl)) ?_
  refine sr_pu rfl (fun _ => rd_slen str_string (ev_t rfl)) ?_
  refine sr_pu rfl (fun _ => rd_gt (ev_t rfl) ev_c) ?_
  refine sr_sub [(0, _, _), (2, _, _), (3, _, _), (4, _, _), (11, _, _)] (sub_cons rfl (sub_cons rfl (sub_cons rfl (sub_cons rfl (sub_cons rfl (sub_nil _)))))) ?_
  refine sr_nil (hK4 _ _ ?_)
  refine sc_cond (ev_t rfl) (fun h1 => ?_) (fun h1 => ?_)
  · have hN : allF s = (0, [], [], 3) := by unfold allF; rw [h1]; rfl
    refine sc_seq fun K5 hK5 => ?_
    refine sc_text [3, 3, 3] ?_
    refine sr_pu rfl (fun _ => rd_move (ev_t rfl)) ?_
    refine sr_pu rfl (fun _ => rd_assign (ev_t rfl)) ?_
    refine sr_pu rfl (fun _ => rd_assign ev_c) ?_
    refine sr_sub [(0, _, _), (2, _, _), (3, _, _), (4, _, _)] (sub_cons rfl (sub_cons rfl (sub_cons rfl (sub_cons rfl (sub_nil _))))) ?_
    refine sr_nil (hK5 _ _ ?_)
    refine sc_ret (t_rets (ts := [2, 3]) (vs := [_, _]) rfl rfl rfl ?_)
    rw [hN]; exact ⟨b8, none, 0, none, 0, rfl, ⟨B8, l8, own_none _ _ _ _, own_none _ _ _ _, (by intro h; cases h), (by intro h; cases h), (by intro k h; cases h)⟩, g⟩
  have hN : allF s = goF s s.length 0 [] [] := by unfold allF; rw [h1]; rfl
  simp only [decide_eq_false_iff_not] at h1
  refine sc_skip (hK3 _ _ ?_)
  refine sc_sub [(0, _, _), (2, _, _), (3, _, _), (4, _, _)] (sub_cons rfl (sub_cons rfl (sub_cons rfl (sub_cons rfl (sub_nil _))))) ?_
  refine sc_seq fun K6 hK6 => ?_
  refine sc_block ?_
  refine sc_loop (fun (x : Nat × List Tok × List Tok × Nat) u => Scn w.heap.size b8 s x.1 x.2.1 x.2.2.1 u ∧ s.length - x.1 ≤ x.2.2.2 ∧ goF s x.2.2.2 x.1 x.2.1 x.2.2.1 = goF s s.length 0 [] [] ∧ G w u) (fun _ => [(0, True, Str s), (4, True, .pointer (some ⟨b8, 0, none⟩))]) (fun x => s.length - x.1) (0, [], [], s.length)
    ⟨(show SA w.heap.size b8 s 0 [] [] none 0 none 0 w8 from ⟨B8, l8, own_none _ _ _ _, own_none _ _ _ _, (by intro h; cases h), (by intro h; cases h), (by intro k h; cases h)⟩).scn (Nat.zero_le _) (Nat.zero_le _) (Nat.zero_le _) (by omega), Nat.sub_le _ _, rfl, g⟩ (sub_cons rfl (sub_cons rfl (sub_nil _))) ?_
  rintro ⟨p, ts, cs, f⟩ u ⟨hs, hf, he, g⟩
  simp only at hs hf he
  obtain ⟨ta, tc, ca, cc, hA, k1, k2, k3, k4⟩ := hs.sa
  refine sc_seq fun K7 hK7 => ?_
  refine sc_seq fun K8 hK8 => ?_
  refine sc_text [3, 3, 3, 0, 3, 3, 3] ?_
  refine sr_pu rfl (fun _ => rd_move (ev_t rfl)) ?_
  refine sr_pu rfl (fun _ => rd_nil (ev_t rfl)) ?_
  refine sr_pu rfl (fun _ => rd_field fo_scan_scanner_1 (ev_t rfl)) ?_
  refine sr_rd rfl (rd_load one_int (ev_t rfl) (fun _ => hA.B.at_ rfl)) ?_
  refine sr_pu rfl (fun _ => rd_move (ev_t rfl)) ?_
  refine sr_pu rfl (fun _ => rd_slen str_string (ev_t rfl)) ?_
  refine sr_pu rfl (fun _ => rd_lt (ev_t rfl) (ev_t rfl)) ?_
  refine sr_sub [(0, _, _), (4, _, _), (19, _, _)] (sub_cons rfl (sub_cons rfl (sub_cons rfl (sub_nil _)))) ?_
  refine sr_nil (hK8 _ _ ?_)
  refine sc_cond (ev_t rfl) (fun h2 => ?_) (fun h2 => ?_)
  · replace h2 : p < s.length := by simp only [decide_eq_true_eq] at h2; omega
    obtain ⟨f', rfl⟩ : ∃ f', f = f' + 1 := ⟨f - 1, by omega⟩
    rw [goF, decide_eq_true h2, cond_true] at he
    refine sc_skip (hK7 _ _ ?_)
    refine sc_sub [(0, _, _), (4, _, _)] (sub_cons rfl (sub_cons rfl (sub_nil _))) ?_
    refine sc_block ?_
    refine sc_seq fun K9 hK9 => ?_
    refine sc_text [3, 2, 3] ?_
    refine sr_pu rfl (fun _ => rd_move (ev_t rfl)) ?_
    refine sr_call rfl (rc_call go_scan_scanner_next ev_f (args_cons (ev_t rfl) (args_nil)) rfl) (next_ok _ _ hb3 s p ts cs _ (hL.grow g) hs h2) ?_
    rintro v21 w21 ⟨rfl, hs', hb'⟩
    refine ⟨fun h => absurd h (by decide), ?_⟩
    have g : G w w21 := Below.trans g hb'
    refine sr_pu rfl (fun _ => rd_assign (ev_t rfl)) ?_
    refine sr_sub [(0, _, _), (4, _, _), (5, _, _)] (sub_cons rfl (sub_cons rfl (sub_cons rfl (sub_nil _)))) ?_
    refine sr_nil (hK9 _ _ ?_)
    refine sc_seq fun K10 hK10 => ?_
    refine sc_text [3, 3] ?_
    refine sr_pu rfl (fun _ => rd_move (ev_t rfl)) ?_
    refine sr_pu rfl (fun _ => rd_ne (ev_t rfl) ev_c) ?_
    refine sr_sub [(0, _, _), (4, _, _), (5, _, _), (23, _, _)] (sub_cons rfl (sub_cons rfl (sub_cons rfl (sub_cons rfl (sub_nil _))))) ?_
    refine sr_nil (hK10 _ _ ?_)
    refine sc_cond (ev_t rfl) (fun h3 => ?_) (fun h3 => ?_)
    · replace h3 : decide ((nextF s p ts cs).2.2.2 = 0) = false := by simpa using h3
      rw [h3, cond_false] at he
      refine sc_seq fun K11 hK11 => ?_
      refine sc_text [3, 3, 3, 3] ?_
      refine sr_pu rfl (fun _ => rd_move (ev_t rfl)) ?_
      refine sr_pu rfl (fun _ => rd_move (ev_t rfl)) ?_
      refine sr_pu rfl (fun _ => rd_assign (ev_t rfl)) ?_
      refine sr_pu rfl (fun _ => rd_assign (ev_t rfl)) ?_
      refine sr_sub [(0, _, _), (2, _, _), (3, _, _), (4, _, _)] (sub_cons rfl (sub_cons rfl (sub_cons rfl (sub_cons rfl (sub_nil _))))) ?_
      refine sr_nil (hK11 _ _ ?_)
      refine sc_ret (t_rets (ts := [2, 3]) (vs := [_, _]) rfl rfl rfl ?_)
      rw [hN, ← he]
      obtain ⟨ta, tc, ca, cc, hA, _⟩ := hs'.sa
      exact ⟨b8, ta, tc, ca, cc, rfl, hA, g⟩
    replace h3 : (nextF s p ts cs).2.2.2 = 0 := by simpa using h3
    have hlt := nextF_lt h2 h3
    rw [decide_eq_true h3, cond_true] at he
    refine sc_sub [(0, _, _), (4, _, _)] (sub_cons rfl (sub_cons rfl (sub_nil _))) ?_
    refine sc_skip (fun a ha => ?_)
    exact ⟨(_, _, _, f'), ha, ⟨hs', by show s.length - (nextF s p ts cs).1 ≤ f'; omega, he, g⟩, by show s.length - (nextF s p ts cs).1 < s.length - p; omega⟩
  have hp : p = s.length := by simp only [decide_eq_false_iff_not] at h2; omega
  have he : (p, ts, cs, (0 : Int)) = goF s s.length 0 [] [] := by
    rw [← he]
    cases f with
    | zero => rfl
    | succ f' => rw [goF, decide_eq_false (by omega : ¬ p < s.length)]; rfl
  refine sc_exit rfl (hK6 _ _ ?_)
  refine sc_sub [(4, _, _)] (sub_cons rfl (sub_nil _)) ?_
  refine sc_seq fun K12 hK12 => ?_
  refine sc_text [3, 3, 3] ?_
  refine sr_pu rfl (fun _ => rd_move (ev_t rfl)) ?_
  refine sr_pu rfl (fun _ => rd_assign (ev_t rfl)) ?_
  refine sr_pu rfl (fun _ => rd_assign ev_c) ?_
  refine sr_nil (hK12 _ _ ?_)
  refine sc_sub [(2, _, _), (3, _, _), (4, _, _), (26, _, _)] (sub_cons rfl (sub_cons rfl (sub_cons rfl (sub_cons rfl (sub_nil _))))) ?_
  refine sc_ret (t_rets (ts := [2, 3]) (vs := [_, _]) rfl rfl rfl ?_)
  rw [hN, ← he]
  exact ⟨b8, ta, tc, ca, cc, rfl, hA, g⟩
def scanF (s : List UInt8) : List Tok × Nat × Int := bif !decide ((allF s).2.2.2 = 0) then ([], (allF s).1, (allF s).2.2.2) else ((allF s).2.1, 0, 0)
/-- A list of tokens as a fresh row. -/
def Toks (base : Nat) (l : List Tok) (v : Value) (w : World) : Prop := w.ownsRow base ty_api_Token 3 v l.length (toksCells l)
theorem scan_ok (s : List UInt8) (w : World) (hL : Laid w) (hb3 : 4 ≤ w.heap.size) :
    Ret PP fn_scan_Scan #[Str s] w fun v w' => ∃ l, v = .tuple #[l, .int .i64 (scanF s).2.1, .int .i64 (scanF s).2.2] ∧ Toks w.heap.size (scanF s).1 l w' ∧ G w w' := by
  have g := G.refl w
  refine ret_of_sc (m := 23) func_scan_Scan rfl rfl [(0, True, _)] (sub_cons rfl (sub_nil _)) ?_
  refine sc_seq fun K1 hK1 => ?_
  refine sc_text [3, 3, 3] ?_
  refine sr_pu rfl (fun _ => rd_assign ev_c) ?_
  refine sr_pu rfl (fun _ => rd_assign ev_c) ?_
  refine sr_pu rfl (fun _ => rd_assign ev_c) ?_
  refine sr_nil (hK1 _ _ ?_)
  refine sc_seq fun K2 hK2 => ?_
  refine sc_text [3, 1, 3, 3, 3, 3, 3] ?_
  refine sr_pu rfl (fun _ => rd_move (ev_t rfl)) ?_
  refine sr_call rfl (rc_call go_scan_all ev_f (args_cons (ev_t rfl) (args_nil)) rfl) (all_ok s _ (hL.grow g) hb3) ?_
  rintro v9 w9 ⟨b, ta, tc, ca, cc, rfl, hA, g9⟩
  refine ⟨fun _ => g9, ?_⟩
  have g := g.trans g9
  refine sr_pu rfl (fun _ => rd_move (ev_t rfl)) ?_
  refine sr_pu rfl (fun _ => rd_extract (ev_t rfl) rfl) ?_
  refine sr_pu rfl (fun _ => rd_extract (ev_t rfl) rfl) ?_
  refine sr_pu rfl (fun _ => rd_assign (ev_t rfl)) ?_
  refine sr_pu rfl (fun _ => rd_assign (ev_t rfl)) ?_
  refine sr_sub [(2, _, _), (3, _, _), (4, _, _), (5, _, _), (6, _, _)] (sub_cons rfl (sub_cons rfl (sub_cons rfl (sub_cons rfl (sub_cons rfl (sub_nil _)))))) ?_
  refine sr_nil (hK2 _ _ ?_)
  refine sc_seq fun K3 hK3 => ?_
  refine sc_seq fun K4 hK4 => ?_
  refine sc_text [3, 3] ?_
  refine sr_pu rfl (fun _ => rd_move (ev_t rfl)) ?_
  refine sr_pu rfl (fun _ => rd_ne (ev_t rfl) ev_c) ?_
  refine sr_sub [(2, _, _), (3, _, _), (4, _, _), (5, _, _), (6, _, _), (13, _, _)] (sub_cons rfl (sub_cons rfl (sub_cons rfl (sub_cons rfl (sub_cons rfl (sub_cons rfl (sub_nil _))))))) ?_
  refine sr_nil (hK4 _ _ ?_)
  refine sc_cond (ev_t rfl) (fun h1 => ?_) (fun h1 => ?_)
  · (try simp only [bsimp] at h1)
    refine sc_seq fun K5 hK5 => ?_
    refine sc_draw [3, 3, 3, 0, 3, 3, 3, 3] [true, true, true, true, true, true, true, true] [0, 1, 3, 7, 0, 0, 47, 127] mix (by kernel_rfl) ?_
    have g := g.trans (G.drew _)
    have gh := G.drew w9
    refine sr_pu rfl (fun _ => rd_move (ev_t rfl)) ?_
    refine sr_pu rfl (fun _ => rd_nil (ev_t rfl)) ?_
    refine sr_pu rfl (fun _ => rd_field fo_scan_scanner_1 (ev_t rfl)) ?_
    refine sr_rd rfl (rd_load one_int (ev_t rfl) (fun _ => by first | exact (hA.grow gh).B.at_ rfl)) ?_
    refine sr_pu rfl (fun _ => rd_move (ev_t rfl)) ?_
    refine sr_pu rfl (fun _ => rd_assign ev_c) ?_
    refine sr_pu rfl (fun _ => rd_assign (ev_t rfl)) ?_
    refine sr_pu rfl (fun _ => rd_assign (ev_t rfl)) ?_
    refine sr_sub [(2, _, _), (3, _, _), (4, _, _), (5, _, _)] (sub_cons rfl (sub_cons rfl (sub_cons rfl (sub_cons rfl (sub_nil _))))) ?_
    refine sr_nil (hK5 _ _ ?_)
    refine sc_ret (t_rets (ts := [2, 3, 4]) (vs := [_, _, _]) rfl rfl rfl ?_)
    refine ⟨.slice none 0 0, ?_, ?_, g⟩
    · rw [scanF, show (!decide ((allF s).2.2.2 = 0)) = true from h1]; rfl
    · rw [scanF, show (!decide ((allF s).2.2.2 = 0)) = true from h1]; exact own_none _ _ _ _
  have gh := G.refl w9
  refine sc_skip (hK3 _ _ ?_)
  refine sc_sub [(2, _, _), (3, _, _), (4, _, _), (5, _, _)] (sub_cons rfl (sub_cons rfl (sub_cons rfl (sub_cons rfl (sub_nil _))))) ?_
  refine sc_seq fun K6 hK6 => ?_
  refine sc_text [3, 3, 3, 0, 3, 3, 3] ?_
  refine sr_pu rfl (fun _ => rd_move (ev_t rfl)) ?_
  refine sr_pu rfl (fun _ => rd_nil (ev_t rfl)) ?_
  refine sr_pu rfl (fun _ => rd_field fo_scan_scanner_2 (ev_t rfl)) ?_
  refine sr_rd rfl (rd_load one_sl_api_Token (ev_t rfl) (fun _ => by first | exact (hA.grow gh).B.at_ rfl)) ?_
  refine sr_pu rfl (fun _ => rd_assign (ev_t rfl)) ?_
  refine sr_pu rfl (fun _ => rd_assign ev_c) ?_
  refine sr_pu rfl (fun _ => rd_assign ev_c) ?_
  refine sr_sub [(2, _, _), (3, _, _), (4, _, _)] (sub_cons rfl (sub_cons rfl (sub_cons rfl (sub_nil _)))) ?_
  refine sr_nil (hK6 _ _ ?_)
  refine sc_ret (t_rets (ts := [2, 3, 4]) (vs := [_, _, _]) rfl rfl rfl ?_)
  refine ⟨.slice ta (allF s).2.1.length tc, ?_, ?_, g⟩
  · rw [scanF, show (!decide ((allF s).2.2.2 = 0)) = false from h1]; rfl
  · rw [scanF, show (!decide ((allF s).2.2.2 = 0)) = false from h1]; exact hA.ht
end Go.Rk
namespace Go.Rk
open Go Go.RowKit
set_option linter.unusedVariables false
structure Ty where
  kind : Int
  name : List UInt8
inductive Nd where
  | mk (kind : Int) (text : List UInt8) (num pos : Int) (kids : List Nd) (ty : Ty) (ref up : Int)
namespace Nd
def kind : Nd → Int | .mk k _ _ _ _ _ _ _ => k
def text : Nd → List UInt8 | .mk _ x _ _ _ _ _ _ => x
def num : Nd → Int | .mk _ _ n _ _ _ _ _ => n
def pos : Nd → Int | .mk _ _ _ a _ _ _ _ => a
def kids : Nd → List Nd | .mk _ _ _ _ ks _ _ _ => ks
def ty : Nd → Ty | .mk _ _ _ _ _ y _ _ => y
def ref : Nd → Int | .mk _ _ _ _ _ _ r _ => r
def up : Nd → Int | .mk _ _ _ _ _ _ _ u => u
theorem eta (t : Nd) : Nd.mk t.kind t.text t.num t.pos t.kids t.ty t.ref t.up = t := by cases t; rfl
end Nd
def ty0 : Ty := ⟨0, []⟩
def nd0 : Nd := .mk 0 [] 0 0 [] ty0 0 0
def tyCells (y : Ty) : List Value := [.int .i64 y.kind, Str y.name]
/-- The cells of a node whose children lie behind v. -/
def ndCells (t : Nd) (v : Value) : List Value := [.int .i64 t.kind, Str t.text, .int .i64 t.num, .int .i64 t.pos, v, .int .i64 t.ty.kind, Str t.ty.name, .int .i64 t.ref, .int .i64 t.up]
@[reducible] def tyV (y : Ty) : Value := .agg (tyCells y).toArray
@[reducible] def ndV (t : Nd) (v : Value) : Value := .agg (ndCells t v).toArray
theorem ndCells_length (t : Nd) (v : Value) : (ndCells t v).length = 9 := rfl

mutual
theorem Nd.ind_n {C : Nd → Prop} (h : ∀ t, (∀ k ∈ t.kids, C k) → C t) : ∀ t, C t
  | .mk k x n a ks y r u => h _ (Nd.ind_l h ks)
theorem Nd.ind_l {C : Nd → Prop} (h : ∀ t, (∀ k ∈ t.kids, C k) → C t) : ∀ (l : List Nd), ∀ k ∈ l, C k
  | [] => fun _ hk => by cases hk
  | t :: ts => List.forall_mem_cons.2 ⟨Nd.ind_n h t, Nd.ind_l h ts⟩
end
theorem Nd.ind {C : Nd → Prop} (h : ∀ t, (∀ k ∈ t.kids, C k) → C t) (t : Nd) : C t := Nd.ind_n h t

section
variable {α : Type}
mutual
/-- A function of a tree out of its children's. -/
def para (f : Nd → List α → α) : Nd → α
  | .mk k x n a ks y r u => f (.mk k x n a ks y r u) (paraL f ks)
def paraL (f : Nd → List α → α) : List Nd → List α
  | [] => []
  | t :: ts => para f t :: paraL f ts
end
theorem paraL_eq (f : Nd → List α → α) (l : List Nd) : paraL f l = l.map (para f) := by
  induction l with
  | nil => rfl
  | cons t ts ih => rw [paraL, ih]; rfl
theorem para_eq (f : Nd → List α → α) (t : Nd) : para f t = f t (t.kids.map (para f)) := by
  cases t with
  | mk k x n a ks y r u => rw [para, paraL_eq]; rfl
end

mutual
/-- Children as a row of cells. -/
def KRow (w : World) (D : Nat → Prop) : List Nd → List Value → Prop
  | [], xs => xs = []
  | t :: ts, xs => ∃ v r, xs = ndCells t v ++ r ∧ KNd w D t v ∧ KRow w D ts r
def KNd (w : World) (D : Nat → Prop) : Nd → Value → Prop
  | .mk _ _ _ _ ks _ _ _, v => ∃ p c, v = .slice p ks.length c ∧ ks.length ≤ c ∧ (0 < ks.length → ∃ b o, p = some ⟨b, o, none⟩ ∧ D b ∧ ∃ xs, RowAt w b o xs ∧ KRow w D ks xs)
end
/-- Children behind a slice; their blocks are all of D. -/
def Kd (w : World) (D : Nat → Prop) (ks : List Nd) (v : Value) : Prop :=
  ∃ p c, v = .slice p ks.length c ∧ ks.length ≤ c ∧ (0 < ks.length → ∃ b o, p = some ⟨b, o, none⟩ ∧ D b ∧ ∃ xs, RowAt w b o xs ∧ KRow w D ks xs)
theorem knd_eq (w : World) (D : Nat → Prop) (t : Nd) (v : Value) : KNd w D t v = Kd w D t.kids v := by
  cases t; rw [KNd]; rfl
theorem krow_nil {w : World} {D : Nat → Prop} : KRow w D [] [] := rfl
theorem krow_cons {w : World} {D : Nat → Prop} {t : Nd} {ts : List Nd} {v : Value} {r : List Value} (h : Kd w D t.kids v) (k : KRow w D ts r) : KRow w D (t :: ts) (ndCells t v ++ r) :=
  ⟨v, r, rfl, (knd_eq ..).symm ▸ h, k⟩
theorem krow_length {w : World} {D : Nat → Prop} : ∀ {ks : List Nd} {xs : List Value}, KRow w D ks xs → xs.length = ks.length * 9
  | [], xs, h => by rw [show xs = [] from h]; rfl
  | t :: ts, xs, h => by
    obtain ⟨v, r, rfl, _, h⟩ := h
    rw [List.length_append, ndCells_length, krow_length h, List.length_cons]; omega
theorem krow_append {w : World} {D : Nat → Prop} : ∀ {ks ls : List Nd} {xs ys : List Value}, KRow w D ks xs → KRow w D ls ys → KRow w D (ks ++ ls) (xs ++ ys)
  | [], ls, xs, ys, h, k => by rw [show xs = [] from h]; exact k
  | t :: ts, ls, xs, ys, h, k => by
    obtain ⟨v, r, rfl, h1, h⟩ := h
    exact ⟨v, r ++ ys, by rw [List.append_assoc], h1, krow_append h k⟩
theorem krow_one {w : World} {D : Nat → Prop} {t : Nd} {v : Value} (h : Kd w D t.kids v) : KRow w D [t] (ndCells t v) := by
  have := krow_cons h (krow_nil (w := w) (D := D)); rwa [List.append_nil] at this
theorem krow_get {w : World} {D : Nat → Prop} : ∀ {ks : List Nd} {xs : List Value} (_ : KRow w D ks xs) {i : Nat} (hi : i < ks.length), ∃ v, (xs.drop (i * 9)).take 9 = ndCells ks[i] v ∧ Kd w D ks[i].kids v
  | [], xs, h, i, hi => by cases hi
  | t :: ts, xs, h, i, hi => by
    obtain ⟨v, r, rfl, h1, h⟩ := h
    cases i with
    | zero => exact ⟨v, by simp [ndCells], knd_eq w D t v ▸ h1⟩
    | succ i =>
      have hi' : i < ts.length := by simpa using hi
      obtain ⟨v', e, k⟩ := krow_get h hi'
      refine ⟨v', ?_, k⟩
      have e9 : (ndCells t v ++ r).drop ((i + 1) * 9) = r.drop (i * 9) := by
        rw [show (i + 1) * 9 = 9 + i * 9 by omega, ← List.drop_drop]; rfl
      rw [e9]; exact e
mutual
theorem krow_frame {w w' : World} {D D' : Nat → Prop} (hD : ∀ b, D b → b < w.heap.size → D' b) (hf : ∀ b, D b → b < w.heap.size → w'.heap[b]? = w.heap[b]?) : ∀ (ks : List Nd) (xs : List Value), KRow w D ks xs → KRow w' D' ks xs
  | [], xs, h => h
  | t :: ts, xs, h => by
    obtain ⟨v, r, rfl, h1, h⟩ := h
    exact ⟨v, r, rfl, knd_frame hD hf t v h1, krow_frame hD hf ts r h⟩
theorem knd_frame {w w' : World} {D D' : Nat → Prop} (hD : ∀ b, D b → b < w.heap.size → D' b) (hf : ∀ b, D b → b < w.heap.size → w'.heap[b]? = w.heap[b]?) : ∀ (t : Nd) (v : Value), KNd w D t v → KNd w' D' t v
  | .mk k x n a ks y r u, v, h => by
    obtain ⟨p, c, rfl, hc, h⟩ := h
    refine ⟨p, c, rfl, hc, fun h0 => ?_⟩
    obtain ⟨b, o, rfl, hb, xs, hR, hX⟩ := h h0
    have hl : xs.length = ks.length * 9 := krow_length hX
    have h0' : ∃ u, xs[0]? = some u := ⟨xs[0]'(by omega), by simp⟩
    obtain ⟨u0, hu0⟩ := h0'
    have hlt : b < w.heap.size := World.block_lt_of_cell? w _ (hR 0 u0 hu0)
    have hb' := hf b hb hlt
    refine ⟨b, o, rfl, hD b hb hlt, xs, fun j u hj => ?_, krow_frame hD hf ks xs hX⟩
    have := hR j u hj
    unfold World.cell? at this ⊢
    simp only [hb']
    exact this
end
theorem kd_frame {w w' : World} {D D' : Nat → Prop} {ks : List Nd} {v : Value} (h : Kd w D ks v) (hD : ∀ b, D b → b < w.heap.size → D' b) (hf : ∀ b, D b → b < w.heap.size → w'.heap[b]? = w.heap[b]?) : Kd w' D' ks v := by
  have := knd_frame hD hf (.mk 0 [] 0 0 ks ty0 0 0) v ((knd_eq w D _ v).symm ▸ h)
  rw [knd_eq] at this; exact this
theorem Kd.mono {w : World} {D D' : Nat → Prop} {ks : List Nd} {v : Value} (h : Kd w D ks v) (hD : ∀ b, D b → b < w.heap.size → D' b) : Kd w D' ks v := kd_frame h hD fun _ _ _ => rfl
theorem KRow.mono {w : World} {D D' : Nat → Prop} {ks : List Nd} {xs : List Value} (h : KRow w D ks xs) (hD : ∀ b, D b → b < w.heap.size → D' b) : KRow w D' ks xs := krow_frame hD (fun _ _ _ => rfl) _ _ h
theorem Kd.grow {w w' : World} {D : Nat → Prop} {ks : List Nd} {v : Value} (h : Kd w D ks v) (g : G w w') : Kd w' D ks v := kd_frame h (fun _ h _ => h) fun _ _ hb => g.block hb
theorem KRow.grow {w w' : World} {D : Nat → Prop} {ks : List Nd} {xs : List Value} (h : KRow w D ks xs) (g : G w w') : KRow w' D ks xs := krow_frame (fun _ h _ => h) (fun _ _ hb => g.block hb) _ _ h
/-- Memory outside D may be written. -/
theorem Kd.keep {w w' : World} {D : Nat → Prop} {ks : List Nd} {v : Value} {row : Option Nat} (h : Kd w D ks v) (hg : w.grownBy w' row) (hne : ∀ b, D b → b < w.heap.size → some b ≠ row) : Kd w' D ks v := kd_frame h (fun _ h _ => h) fun b hb hlt => hg.block b hlt (hne b hb hlt)
theorem KRow.keep {w w' : World} {D : Nat → Prop} {ks : List Nd} {xs : List Value} {row : Option Nat} (h : KRow w D ks xs) (hg : w.grownBy w' row) (hne : ∀ b, D b → b < w.heap.size → some b ≠ row) : KRow w' D ks xs := krow_frame (fun _ h _ => h) (fun b hb hlt => hg.block b hlt (hne b hb hlt)) _ _ h
theorem Kd.lt {w : World} {D : Nat → Prop} {ks : List Nd} {v : Value} (h : Kd w D ks v) : Kd w (fun b => D b ∧ b < w.heap.size) ks v := kd_frame h (fun _ h hl => ⟨h, hl⟩) fun _ _ _ => rfl
theorem KRow.lt {w : World} {D : Nat → Prop} {ks : List Nd} {xs : List Value} (h : KRow w D ks xs) : KRow w (fun b => D b ∧ b < w.heap.size) ks xs := krow_frame (fun _ h hl => ⟨h, hl⟩) (fun _ _ _ => rfl) _ _ h
/-- Its blocks are as old as the world it was met in. -/
theorem Kd.old {w w' : World} {D : Nat → Prop} {ks : List Nd} {v : Value} (h : Kd w D ks v) (g : G w w') : Kd w' (fun b => D b ∧ b < w.heap.size) ks v := h.lt.grow g
theorem kd_nil (w : World) (D : Nat → Prop) : Kd w D [] (.slice none 0 0) := ⟨none, 0, rfl, Nat.le_refl _, fun h => absurd h (Nat.lt_irrefl 0)⟩
/-- A row of one's own as children. -/
theorem kd_own {w : World} {base : Nat} {e : TypeId} {v : Value} {m : Nat} {xs : List Value} {D : Nat → Prop} {ks : List Nd} (h : w.ownsRow base e 9 v m xs) (hm : m = ks.length) (k : KRow w D ks xs) (hD : ∀ b, v.ownBlock = some b → D b) : Kd w D ks v := by
  subst hm
  obtain ⟨a, c, rfl, hc⟩ := own_sl h
  refine ⟨a, c, rfl, hc, fun h0 => ?_⟩
  obtain ⟨b, c', hv, _, hR, _⟩ := own_pos h h0
  injection hv with hv _ _
  subst hv
  exact ⟨b, 0, rfl, hD b rfl, xs, hR, k⟩
/-- A piece of memory as children. -/
theorem kd_row {w : World} {D : Nat → Prop} {ks : List Nd} {b o c : Nat} {xs : List Value} (hb : D b) (hR : RowAt w b o xs) (hX : KRow w D ks xs) (hc : ks.length ≤ c) : Kd w D ks (.slice (some ⟨b, o, none⟩) ks.length c) := ⟨_, c, rfl, hc, fun _ => ⟨b, o, rfl, hb, xs, hR, hX⟩⟩
theorem kd_at {w : World} {D : Nat → Prop} {ks : List Nd} {b o : Nat} {xs : List Value} (hR : RowAt w b o xs) (hX : KRow w D ks xs) {i : Nat} (hi : i < ks.length) : ∃ p c, RowAt w b (o + i * 9) (ndCells ks[i] (.slice p ks[i].kids.length c)) ∧ Kd w D ks[i].kids (.slice p ks[i].kids.length c) := by
  obtain ⟨v, e, k⟩ := krow_get hX hi
  have := hR.part (i * 9) 9
  rw [e] at this
  obtain ⟨p, c, rfl, k1⟩ := k
  exact ⟨p, c, this, p, c, rfl, k1⟩
/-! counting -/
def count (t : Nd) : Nat := para (fun _ l => 1 + l.sum) t
theorem count_eq (t : Nd) : count t = 1 + (t.kids.map count).sum := para_eq _ t
theorem sum_take_le (l : List Nat) (i : Nat) : (l.take i).sum ≤ l.sum := by
  conv => rhs; rw [← List.take_append_drop i l, List.sum_append]
  omega
theorem count_kid {t : Nd} {i : Nat} (h : i < t.kids.length) : ((t.kids.take i).map count).sum + count t.kids[i] + 1 ≤ count t := by
  rw [count_eq t]
  have := sum_take_le (t.kids.map count) (i + 1)
  rw [← List.map_take, List.take_add_one, List.getElem?_eq_getElem h] at this
  simp only [Option.toList_some, List.map_append, List.map_cons, List.map_nil, List.sum_append, List.sum_cons, List.sum_nil] at this
  omega
theorem count_pos (t : Nd) : 1 ≤ count t := by rw [count_eq]; omega
theorem length_le_sum : ∀ (l : List Nd), l.length ≤ (l.map count).sum
  | [] => Nat.le_refl _
  | t :: ts => by have := length_le_sum ts; have := count_pos t; simp; omega
theorem kids_le (t : Nd) : t.kids.length + 1 ≤ count t := by
  have := length_le_sum t.kids; rw [count_eq]; omega
theorem count_mem {t k : Nd} (h : k ∈ t.kids) : count k + 1 ≤ count t := by
  obtain ⟨i, hi, rfl⟩ := List.getElem_of_mem h
  have := count_kid hi; omega
theorem take_succ_map {α β : Type} (f : α → β) (l : List α) (i : Nat) (h : i < l.length) : (l.take (i + 1)).map f = (l.take i).map f ++ [f l[i]] := by
  rw [List.take_add_one, List.getElem?_eq_getElem h, List.map_append]; rfl
end Go.Rk
namespace Go.Rk
open Go Go.RowKit
def alB (c : UInt8) : Bool := letterB c.toNat || digitB c.toNat
def nameB (s : List UInt8) : Bool := !(((decide (s = []) || decide ((32 : Int) < s.length)) || !letterB (cAt s 0)) || inB kws s) && (s.drop 1).all alB
/-! the same by the scanner -/
theorem letter_not {c : Int} (h : letterB c = true) : decide (c = 10) = false ∧ ((decide (c = 32) || decide (c = 9)) || decide (c = 13)) = false ∧ decide (c = 47) = false := by
  simp only [letterB, Bool.or_eq_true, Bool.and_eq_true, decide_eq_true_eq] at h
  simp only [Bool.or_eq_false_iff, decide_eq_false_iff_not]
  omega
theorem runN_full {q : Int → Bool} : ∀ {l : List UInt8}, (∀ c ∈ l, q c.toNat = true) → runN q l = l.length
  | [], _ => rfl
  | c :: l, h => by
    rw [runN, if_pos (h c (List.mem_cons_self ..)), runN_full fun x hx => h x (List.mem_cons_of_mem _ hx)]; rfl
theorem name_run {s : List UInt8} (h : nameB s = true) : s.length ≠ 0 ∧ s.length ≤ 32 ∧ letterB (cAt s 0) = true ∧ inB kws s = false ∧ runN isAlnum s = s.length := by
  unfold nameB at h
  simp only [Bool.and_eq_true, Bool.not_eq_true', Bool.or_eq_false_iff, decide_eq_false_iff_not, Bool.not_eq_false'] at h
  obtain ⟨⟨⟨⟨h1, h2⟩, h3⟩, h4⟩, h5⟩ := h
  refine ⟨fun e => h1 (List.length_eq_zero_iff.1 e), by omega, h3, h4, runN_full fun c hc => ?_⟩
  cases s with
  | nil => cases hc
  | cons a l =>
    rcases List.mem_cons.1 hc with rfl | hc
    · have : letterB (c.toNat : Int) = true := h3
      rw [isAlnum, this]; rfl
    · exact List.all_eq_true.1 h5 c hc
theorem pre_slash {l : List UInt8} (h : decide (cAt l 0 = 47) = false) : preB [47, 47] l = false := by
  cases l with
  | nil => rfl
  | cons a l =>
    have : ¬ (a.toNat : Int) = 47 := of_decide_eq_false h
    unfold preB
    rw [Bool.and_eq_false_iff]; right
    rw [decide_eq_false_iff_not]
    intro e
    rw [List.length_cons, List.take_succ_cons] at e
    injection e with e1 _
    subst e1
    exact this rfl
theorem name_scan {s : List UInt8} (h : nameB s = true) : scanF s = ([⟨1, s, 0⟩], 0, 0) := by
  obtain ⟨h0, h1, h2, h3, h4⟩ := name_run h
  obtain ⟨a1, a2, a3⟩ := letter_not h2
  have hN : nextF s 0 [] [] = (s.length, [⟨1, s, 0⟩], [], 0) := by
    unfold nextF
    rw [a1, a2, show s.drop 0 = s from rfl, pre_slash a3, h2, h4, decide_eq_false (by omega : ¬ (32 : Int) < (s.length : Nat)), List.take_of_length_le (Nat.le_refl _), wordK, h3]
    simp
  have hG : goF s s.length 0 [] [] = (s.length, [⟨1, s, 0⟩], [], 0) := by
    obtain ⟨m, hm⟩ : ∃ m, s.length = m + 1 := ⟨s.length - 1, by omega⟩
    rw [hm, goF, decide_eq_true (by omega : 0 < s.length), hN]
    simp only [cond_true, decide_true]
    cases m with
    | zero => rw [goF, hm]
    | succ m => rw [goF, decide_eq_false (by omega), cond_false, hm]
  rw [scanF, allF, decide_eq_false (by omega : ¬ (20000 : Int) < s.length), cond_false, hG]
  rfl
def NameTok (t : Tok) : Prop := t.kind = 1 → nameB t.text = true
theorem nextF_name {s : List UInt8} {p : Nat} {ts : List Tok} (cs : List Tok) (hp : p < s.length) (h : ∀ t ∈ ts, NameTok t) : ∀ t ∈ (nextF s p ts cs).2.1, NameTok t := by
  have hn : ∀ (l : List Tok) (t : Tok), (∀ t ∈ l, NameTok t) → NameTok t → ∀ u ∈ l ++ [t], NameTok u := by
    intro l t hl ht u hu
    rcases List.mem_append.1 hu with hu | hu
    · exact hl u hu
    · rw [List.mem_singleton.1 hu]; exact ht
  unfold nextF
  cases h1 : decide (cAt s p = 10)
  · cases h2 : ((decide (cAt s p = 32) || decide (cAt s p = 9)) || decide (cAt s p = 13))
    · cases h3 : preB [47, 47] (s.drop p)
      · cases h4 : letterB (cAt s p)
        · cases h7 : digitB (cAt s p)
          · cases h8 : Nat.beq (opLen (s.drop p)) 0
            · exact hn _ _ h (fun e => by simp at e)
            · exact h
          · cases h8 : badD s p (runN digitB (s.drop p))
            · cases h9 : decide (valN 0 ((s.drop p).take (runN digitB (s.drop p))) < 9223372036854775808)
              · exact h
              · exact hn _ _ h (fun e => by simp at e)
            · exact h
        · cases h5 : decide ((32 : Int) < runN isAlnum (s.drop p))
          · refine hn _ _ h (fun e => ?_)
            simp only at e ⊢
            have hq : isAlnum (cAt s p) = true := by rw [isAlnum, h4]; rfl
            have hpos := runN_pos hp hq
            have hfit := runN_fit isAlnum hp
            have hall := runN_all isAlnum (s.drop p)
            generalize hX : (s.drop p).take (runN isAlnum (s.drop p)) = x at e hall ⊢
            have hl : x.length = runN isAlnum (s.drop p) := by rw [← hX, List.length_take, List.length_drop]; omega
            have hk : inB kws x = false := by
              cases hk : inB kws x
              · rfl
              · rw [wordK, hk] at e; cases e
            have hc : cAt x 0 = cAt s p := by
              rw [← hX]
              unfold cAt
              simp [List.getD_eq_getElem?_getD, List.getElem?_take, show 0 < runN isAlnum (s.drop p) from hpos]
            have h5' := of_decide_eq_false h5
            unfold nameB
            rw [decide_eq_false (by omega : ¬ (32 : Int) < (x.length : Nat)), hc, h4, hk, decide_eq_false (by intro e0; rw [e0] at hl; simp at hl; omega)]
            simp only [Bool.not_true, Bool.or_false, Bool.not_false, Bool.true_and]
            rw [List.all_eq_true]
            intro c hc
            exact hall c (List.mem_of_mem_drop hc)
          · exact h
      · exact h
    · exact h
  · show ∀ t ∈ nlTs p ts, NameTok t
    intro t ht
    have : nlTs p ts = ts ∨ ∃ q, nlTs p ts = ts ++ [⟨4, [59], q⟩] := by
      unfold nlTs
      cases ts.getLast? with
      | none => exact .inl rfl
      | some u => simp only []; split <;> first | exact .inl rfl | exact .inr ⟨_, rfl⟩
    rcases this with e | ⟨q, e⟩
    · rw [e] at ht; exact h t ht
    · rw [e] at ht; exact hn _ _ h (fun e => by simp at e) t ht
theorem goF_name (s : List UInt8) : ∀ (f p : Nat) (ts cs : List Tok), (∀ t ∈ ts, NameTok t) → ∀ t ∈ (goF s f p ts cs).2.1, NameTok t
  | 0, _, _, _, h => h
  | f + 1, p, ts, cs, h => by
    rw [goF]
    cases hp : decide (p < s.length)
    · exact h
    · have hn := nextF_name (ts := ts) cs (of_decide_eq_true hp) h
      cases decide ((nextF s p ts cs).2.2.2 = 0)
      · exact hn
      · exact goF_name s f _ _ _ hn
theorem scanF_name (s : List UInt8) : ∀ t ∈ (scanF s).1, NameTok t := by
  rw [scanF, allF]
  cases decide ((20000 : Int) < s.length)
  · simp only [cond_false]
    have := goF_name s s.length 0 [] [] (fun t ht => by cases ht)
    cases (!decide ((goF s s.length 0 [] []).2.2.2 = 0))
    · exact this
    · exact fun t ht => by cases ht
  · exact fun t ht => by cases ht
def tok1 (l : List Tok) : Tok := l.getD 0 ⟨0, [], 0⟩
def nameP (s : List UInt8) : Bool := ((decide ((scanF s).2.2 = 0) && decide (((scanF s).1.length : Int) = 1)) && decide ((tok1 (scanF s).1).kind = 1)) && decide ((tok1 (scanF s).1).text = s)
theorem nameP_eq (s : List UInt8) : nameP s = nameB s := by
  cases h : nameB s
  · rw [nameP, Bool.eq_false_iff]
    intro hp
    simp only [Bool.and_eq_true, decide_eq_true_eq] at hp
    obtain ⟨⟨⟨_, h2⟩, h3⟩, h4⟩ := hp
    have hm : tok1 (scanF s).1 ∈ (scanF s).1 := by
      cases hl : (scanF s).1 with
      | nil => rw [hl] at h2; simp at h2
      | cons a l => exact List.mem_cons_self ..
    have := scanF_name s _ hm h3
    rw [h4, h] at this; cases this
  · rw [nameP, name_scan h]
    simp [tok1]
def pb (p : Option Addr) : Nat := match p with | some a => a.block | none => 0
def po (p : Option Addr) : Nat := match p with | some a => a.off | none => 0
/-- A chain of comparisons, as a switch makes it. -/
def anyK : List Int → Int → Bool
  | [], _ => false
  | [a], k => decide (k = a)
  | a :: b :: l, k => decide (k = a) || anyK (b :: l) k
def anyS : List (List UInt8) → List UInt8 → Bool
  | [], _ => false
  | [a], k => decide (k = a)
  | a :: b :: l, k => decide (k = a) || anyS (b :: l) k
theorem tok1_row {w : World} {b o : Nat} {l : List Tok} (h : RowAt w b o (toksCells l)) (hl : 0 < l.length) : RowAt w b o (tokCells (tok1 l)) := by
  cases l with
  | nil => cases hl
  | cons t l =>
    have := h.part 0 3
    exact this
theorem rd_idxq {P : Program} {n : Nat} {σ : List Ent} {c : Prop} {wb : World} {ty : TypeId} {t e z by_ : Nat} {x y : Operand} {p : Option Addr} {m q : Nat} {k : IntKind} {i : Int} (ht : tyElem P t = some (e, z, by_)) (h : Ev n σ c x (.slice p m q)) (h' : Ev n σ c y (.int k i)) (hi : c → 0 ≤ i ∧ i < m) (hp : c → p = some ⟨pb p, po p, none⟩) :
    Rd P n σ c wb (.indexAddr t x y) ty (.pointer (some ⟨pb p, po p + i.toNat * z, none⟩)) := fun d pos after gd a ha hc w1 hg =>
  rd_idx (P := P) (wb := wb) ht (Ev.to h fun hc => congrArg (fun p => Value.slice p m q) (hp hc)) h' hi d pos after gd a ha hc w1 hg
theorem toks_slice {base : Nat} {l : List Tok} {v : Value} {w : World} (h : Toks base l v w) : ∃ a c, v = .slice a l.length c ∧ (0 < l.length → a = some ⟨pb a, po a, none⟩ ∧ RowAt w (pb a) (po a) (tokCells (tok1 l))) := by
  obtain ⟨a, c, rfl, _⟩ := own_sl h
  refine ⟨a, c, rfl, fun h0 => ?_⟩
  obtain ⟨b, c', hv, _, hR, _⟩ := own_pos h h0
  injection hv with hv _ _
  subst hv
  exact ⟨rfl, tok1_row hR h0⟩
end Go.Rk
namespace Go.Rk
open Go Go.RowKit
set_option linter.unusedVariables false
section
variable {α : Type} {f : α → List Value} {z : Nat}
/-- A slice whose elements are plain structs. -/
def RowF (f : α → List Value) (w : World) (l : List α) (v : Value) : Prop :=
  ∃ p c, v = .slice p l.length c ∧ l.length ≤ c ∧ (0 < l.length → ∃ b o, p = some ⟨b, o, none⟩ ∧ RowAt w b o (l.flatMap f))
theorem RowF.grow {w w' : World} {l : List α} {v : Value} (h : RowF f w l v) (g : G w w') : RowF f w' l v := by
  obtain ⟨p, c, rfl, hc, h⟩ := h
  refine ⟨p, c, rfl, hc, fun h0 => ?_⟩
  obtain ⟨b, o, rfl, hR⟩ := h h0
  exact ⟨b, o, rfl, hR.grow g⟩
end
end Go.Rk
namespace Go.Rk
open Go Go.RowKit
theorem sum_take_succ {l : List Nd} {i : Nat} (f : Nd → Nat) (h : i < l.length) : ((l.take (i + 1)).map f).sum = ((l.take i).map f).sum + f l[i] := by
  rw [take_succ_map f l i h, List.sum_append]; simp
theorem rcount_ok : ∀ (t : Nd) (v : Value) (D : Nat → Prop) (w : World), Kd w D t.kids v → count t ≤ 4611686018427387904 → Ret PP fn_r03_Count #[ndV t v] w fun r w' => r = .int .i64 (count t : Nat) ∧ G w w' := by
  refine Nd.ind fun t ih v D w hk hc => ?_
  obtain ⟨p, c, rfl, hcap, hks⟩ := hk
  have g := G.refl w
  have hlen := kids_le t
  refine ret_of_sc (m := 21) func_r03_Count rfl rfl [(0, True, _)] (sub_cons rfl (sub_nil _)) ?_
  refine sc_seq fun K1 hK1 => ?_
  refine sc_text [1, 3] ?_
  refine sr_box rfl (ev_t rfl) rfl ?_
  intro b1 w1 N1
  have l1 := N1.ge g
  have g := g.trans (N1.g)
  have B1 := N1.blk
  refine sr_pu rfl (fun _ => rd_assign ev_c) ?_
  refine sr_sub [(1, _, _), (2, _, _)] (sub_cons rfl (sub_cons rfl (sub_nil _))) ?_
  refine sr_nil (hK1 _ _ ?_)
  refine sc_seq fun K2 hK2 => ?_
  refine sc_text [3] ?_
  refine sr_pu rfl (fun _ => rd_assign ev_c) ?_
  refine sr_nil (hK2 _ _ ?_)
  refine sc_seq fun K3 hK3 => ?_
  refine sc_seq fun K4 hK4 => ?_
  refine sc_text [3] ?_
  refine sr_pu rfl (fun _ => rd_assign ev_c) ?_
  refine sr_nil (hK4 _ _ ?_)
  refine sc_block ?_
  refine sc_loop2 (fun (i : Nat) u1 => (i ≤ t.kids.length) ∧ G w1 u1) [(1, True, _), (2, True, _)] (fun (i : Nat) => [(3, True, .int .i64 ((1 + ((t.kids.take i).map count).sum : Nat) : Int)), (4, True, .int .i64 i)]) (fun (i : Nat) => t.kids.length - i) (0) ⟨by simp, G.refl _⟩ (sub_cons rfl (sub_cons rfl (sub_cons rfl (sub_cons rfl (sub_nil _))))) ?_
  rintro i u1 ⟨hI1, gl1⟩
  have g := g.trans gl1
  replace B1 := B1.grow (gl1)
  refine sc_seq fun K5 hK5 => ?_
  refine sc_seq fun K6 hK6 => ?_
  refine sc_text [3, 3, 0, 3, 3] ?_
  refine sr_pu rfl (fun _ => rd_move (ev_t rfl)) ?_
  refine sr_pu rfl (fun _ => rd_field fo_api_Node_4 (ev_t rfl)) ?_
  refine sr_rd rfl (rd_load one_sl_api_Node (ev_t rfl) (fun _ => B1.at_ rfl)) ?_
  refine sr_pu rfl (fun _ => rd_len el_sl_api_Node (ev_t rfl)) ?_
  refine sr_pu rfl (fun _ => rd_lt (ev_t rfl) (ev_t rfl)) ?_
  refine sr_sub [(1, _, _), (2, _, _), (3, _, _), (4, _, _), (9, _, _)] (sub_cons rfl (sub_cons rfl (sub_cons rfl (sub_cons rfl (sub_cons rfl (sub_nil _)))))) ?_
  refine sr_nil (hK6 _ _ ?_)
  refine sc_cond (ev_t rfl) (fun h1 => ?_) (fun h1 => ?_)
  · replace h1 : i < t.kids.length := by simp only [decide_eq_true_eq] at h1; omega
    obtain ⟨b, o, rfl, hD, xs, hR, hX⟩ := hks (by omega)
    obtain ⟨p', c', hcell, hkid⟩ := kd_at hR hX h1
    have hck := count_kid h1
    refine sc_skip (hK5 _ _ ?_)
    refine sc_sub [(1, _, _), (2, _, _), (3, _, _), (4, _, _)] (sub_cons rfl (sub_cons rfl (sub_cons rfl (sub_cons rfl (sub_nil _))))) ?_
    refine sc_seq fun K7 hK7 => ?_
    refine sc_block ?_
    refine sc_text [3, 3, 0, 3, 3, 0, 1, 3, 3] ?_
    refine sr_pu rfl (fun _ => rd_move (ev_t rfl)) ?_
    refine sr_pu rfl (fun _ => rd_field fo_api_Node_4 (ev_t rfl)) ?_
    refine sr_rd rfl (rd_load one_sl_api_Node (ev_t rfl) (fun _ => B1.at_ rfl)) ?_
    refine sr_pu rfl (fun _ => rd_move (ev_t rfl)) ?_
    refine sr_pu rfl (fun _ => rd_idx el_sl_api_Node (ev_t rfl) (ev_t rfl) (fun _ => by omega)) ?_
    refine sr_rd rfl (rd_loads agg_api_Node (ev_t rfl) rfl (fun _ => hcell.grow g)) ?_
    refine sr_pure rfl (rc_call go_r03_Count ev_f (args_cons (ev_t rfl) (args_nil)) rfl) (ih _ (List.getElem_mem h1) _ _ _ (hkid.grow g) (by omega)) (fun w18 g18 => ?_)
    have g := g.trans (g18)
    try have gl1 := gl1.trans (g18)
    replace B1 := B1.grow (g18)
    refine sr_pu rfl (fun _ => rd_add (ev_t rfl) (ev_t rfl) (fun _ => by omega)) ?_
    refine sr_pu rfl (fun _ => rd_assign (ev_t rfl)) ?_
    refine sr_sub [(1, _, _), (2, _, _), (3, _, _), (4, _, _)] (sub_cons rfl (sub_cons rfl (sub_cons rfl (sub_cons rfl (sub_nil _))))) ?_
    refine sr_nil (hK7 _ _ ?_)
    refine sc_text [3, 3, 3] ?_
    refine sr_pu rfl (fun _ => rd_move (ev_t rfl)) ?_
    refine sr_pu rfl (fun _ => rd_add (ev_t rfl) ev_c (fun _ => by omega)) ?_
    refine sr_pu rfl (fun _ => rd_assign (ev_t rfl)) ?_
    refine sr_sub [(3, _, _), (4, _, _), (1, _, _), (2, _, _)] (sub_cons rfl (sub_cons rfl (sub_cons rfl (sub_cons rfl (sub_nil _))))) ?_
    refine sr_nil (fun a ha => ?_)
    have e : ((1 + ((t.kids.take i).map count).sum : Nat) : Int) + (count t.kids[i] : Nat) = ((1 + ((t.kids.take (i + 1)).map count).sum : Nat) : Int) := by rw [sum_take_succ count h1]; omega
    rw [e] at ha
    exact ⟨i + 1, ha, ⟨h1, gl1⟩, by omega⟩
  replace h1 : i = t.kids.length := by simp only [decide_eq_false_iff_not] at h1; omega
  refine sc_exit rfl (hK3 _ _ ?_)
  refine sc_sub [(2, _, _), (3, _, _)] (sub_cons rfl (sub_cons rfl (sub_nil _))) ?_
  refine sc_seq fun K8 hK8 => ?_
  refine sc_text [3, 3] ?_
  refine sr_pu rfl (fun _ => rd_move (ev_t rfl)) ?_
  refine sr_pu rfl (fun _ => rd_assign (ev_t rfl)) ?_
  refine sr_nil (hK8 _ _ ?_)
  refine sc_ret (t_ret1 rfl rfl ?_)
  refine ⟨?_, g⟩
  rw [h1, List.take_length, ← count_eq]
theorem scount_ok : ∀ (t : Nd) (v : Value) (D : Nat → Prop) (w : World), Kd w D t.kids v → count t ≤ 4611686018427387904 → Ret PP fn_syntax_Count #[ndV t v] w fun r w' => r = .int .i64 (count t : Nat) ∧ G w w' := by
  refine Nd.ind fun t ih v D w hk hc => ?_
  obtain ⟨p, c, rfl, hcap, hks⟩ := hk
  have g := G.refl w
  have hlen := kids_le t
  refine ret_of_sc (m := 19) func_syntax_Count rfl rfl [(0, True, _)] (sub_cons rfl (sub_nil _)) ?_
  refine sc_seq fun K1 hK1 => ?_
  refine sc_text [1, 3] ?_
  refine sr_box rfl (ev_t rfl) rfl ?_
  intro b1 w1 N1
  have l1 := N1.ge g
  have g := g.trans (N1.g)
  have B1 := N1.blk
  refine sr_pu rfl (fun _ => rd_assign ev_c) ?_
  refine sr_sub [(1, _, _), (2, _, _)] (sub_cons rfl (sub_cons rfl (sub_nil _))) ?_
  refine sr_nil (hK1 _ _ ?_)
  refine sc_seq fun K2 hK2 => ?_
  refine sc_text [3] ?_
  refine sr_pu rfl (fun _ => rd_assign ev_c) ?_
  refine sr_nil (hK2 _ _ ?_)
  refine sc_seq fun K3 hK3 => ?_
  refine sc_seq fun K4 hK4 => ?_
  refine sc_text [3, 0, 3, 3] ?_
  refine sr_pu rfl (fun _ => rd_field fo_api_Node_4 (ev_t rfl)) ?_
  refine sr_rd rfl (rd_load one_sl_api_Node (ev_t rfl) (fun _ => B1.at_ rfl)) ?_
  refine sr_pu rfl (fun _ => rd_len el_sl_api_Node (ev_t rfl)) ?_
  refine sr_pu rfl (fun _ => rd_move ev_c) ?_
  refine sr_sub [(2, _, _), (3, _, _), (7, _, _), (8, _, _), (9, _, _)] (sub_cons rfl (sub_cons rfl (sub_cons rfl (sub_cons rfl (sub_cons rfl (sub_nil _)))))) ?_
  refine sr_nil (hK4 _ _ ?_)
  refine sc_block ?_
  refine sc_loop2 (fun (i : Nat) u1 => (i ≤ t.kids.length) ∧ G w1 u1) [(2, True, _), (7, True, _), (8, True, _)] (fun (i : Nat) => [(3, True, .int .i64 ((1 + ((t.kids.take i).map count).sum : Nat) : Int)), (9, True, .int .i64 i)]) (fun (i : Nat) => t.kids.length - i) (0) ⟨by simp, G.refl _⟩ (sub_cons rfl (sub_cons rfl (sub_cons rfl (sub_cons rfl (sub_cons rfl (sub_nil _)))))) ?_
  rintro i u1 ⟨hI1, gl1⟩
  have g := g.trans gl1
  replace B1 := B1.grow (gl1)
  refine sc_seq fun K5 hK5 => ?_
  refine sc_text [3] ?_
  refine sr_pu rfl (fun _ => rd_lt (ev_t rfl) (ev_t rfl)) ?_
  refine sr_nil (hK5 _ _ ?_)
  refine sc_sub [(2, _, _), (3, _, _), (7, _, _), (8, _, _), (9, _, _), (10, _, _)] (sub_cons rfl (sub_cons rfl (sub_cons rfl (sub_cons rfl (sub_cons rfl (sub_cons rfl (sub_nil _))))))) ?_
  refine sc_seq fun K6 hK6 => ?_
  refine sc_cond (ev_t rfl) (fun h1 => ?_) (fun h1 => ?_)
  · replace h1 : i < t.kids.length := by simp only [decide_eq_true_eq] at h1; omega
    obtain ⟨b, o, rfl, hD, xs, hR, hX⟩ := hks (by omega)
    obtain ⟨p', c', hcell, hkid⟩ := kd_at hR hX h1
    have hck := count_kid h1
    refine sc_skip (hK6 _ _ ?_)
    refine sc_sub [(2, _, _), (3, _, _), (7, _, _), (8, _, _), (9, _, _)] (sub_cons rfl (sub_cons rfl (sub_cons rfl (sub_cons rfl (sub_cons rfl (sub_nil _)))))) ?_
    refine sc_seq fun K7 hK7 => ?_
    refine sc_block ?_
    refine sc_seq fun K8 hK8 => ?_
    refine sc_text [3, 0, 1, 2] ?_
    refine sr_pu rfl (fun _ => rd_idx el_sl_api_Node (ev_t rfl) (ev_t rfl) (fun _ => by omega)) ?_
    refine sr_rd rfl (rd_loads agg_api_Node (ev_t rfl) rfl (fun _ => hcell.grow g)) ?_
    refine sr_alloc rfl ze_api_Node rfl ?_
    intro b5 w5 N5
    have x5_1 := N5.ne B1
    have l5 := N5.ge g
    try have l5_gl1 := N5.ge gl1
    have g := g.trans (N5.g)
    try have gl1 := gl1.trans (N5.g)
    replace B1 := B1.grow (N5.g)
    have B5 := N5.blk
    refine sr_store_all rfl sz_api_Node (ev_t rfl) (ev_t rfl) rfl rfl B5 rfl rfl ?_
    intro wS1 hgS1 hzS1
    clear B5
    intro B5
    replace B1 := B1.keep hgS1 (by intro h; injection h with h; first | exact x5_1 h.symm | exact x1_5 h | omega)
    have g := g_only g hgS1 (by intro k hk; injection hk with hk; omega)
    first | replace gl1 := g_only gl1 hgS1 (by intro k hk; injection hk with hk; omega) | clear gl1 | skip
    refine sr_sub [(2, _, _), (3, _, _), (5, _, _), (7, _, _), (8, _, _), (9, _, _)] (sub_cons rfl (sub_cons rfl (sub_cons rfl (sub_cons rfl (sub_cons rfl (sub_cons rfl (sub_nil _))))))) ?_
    refine sr_nil (hK8 _ _ ?_)
    refine sc_text [3, 0, 1, 3, 3] ?_
    refine sr_pu rfl (fun _ => rd_move (ev_t rfl)) ?_
    refine sr_rd rfl (rd_loads agg_api_Node (ev_t rfl) rfl (fun _ => B5.row)) ?_
    refine sr_pure rfl (rc_call go_syntax_Count ev_f (args_cons (ev_t rfl) (args_nil)) rfl) (ih _ (List.getElem_mem h1) _ _ _ (hkid.grow g) (by omega)) (fun w15 g15 => ?_)
    have g := g.trans (g15)
    try have gl1 := gl1.trans (g15)
    replace B1 := B1.grow (g15)
    replace B5 := B5.grow (g15)
    refine sr_pu rfl (fun _ => rd_add (ev_t rfl) (ev_t rfl) (fun _ => by omega)) ?_
    refine sr_pu rfl (fun _ => rd_assign (ev_t rfl)) ?_
    refine sr_sub [(2, _, _), (3, _, _), (7, _, _), (8, _, _), (9, _, _)] (sub_cons rfl (sub_cons rfl (sub_cons rfl (sub_cons rfl (sub_cons rfl (sub_nil _)))))) ?_
    refine sr_nil (hK7 _ _ ?_)
    refine sc_text [3, 3] ?_
    refine sr_pu rfl (fun _ => rd_add (ev_t rfl) ev_c (fun _ => by omega)) ?_
    refine sr_pu rfl (fun _ => rd_move (ev_t rfl)) ?_
    refine sr_sub [(3, _, _), (9, _, _), (2, _, _), (7, _, _), (8, _, _)] (sub_cons rfl (sub_cons rfl (sub_cons rfl (sub_cons rfl (sub_cons rfl (sub_nil _)))))) ?_
    refine sr_nil (fun a ha => ?_)
    have e : ((1 + ((t.kids.take i).map count).sum : Nat) : Int) + (count t.kids[i] : Nat) = ((1 + ((t.kids.take (i + 1)).map count).sum : Nat) : Int) := by rw [sum_take_succ count h1]; omega
    rw [e] at ha
    exact ⟨i + 1, ha, ⟨h1, gl1⟩, by omega⟩
  replace h1 : i = t.kids.length := by simp only [decide_eq_false_iff_not] at h1; omega
  refine sc_exit rfl (hK3 _ _ ?_)
  refine sc_sub [(2, _, _), (3, _, _)] (sub_cons rfl (sub_cons rfl (sub_nil _))) ?_
  refine sc_seq fun K9 hK9 => ?_
  refine sc_text [3, 3] ?_
  refine sr_pu rfl (fun _ => rd_move (ev_t rfl)) ?_
  refine sr_pu rfl (fun _ => rd_assign (ev_t rfl)) ?_
  refine sr_nil (hK9 _ _ ?_)
  refine sc_ret (t_ret1 rfl rfl ?_)
  refine ⟨?_, g⟩
  rw [h1, List.take_length, ← count_eq]
end Go.Rk
namespace Go.Rk
open Go Go.RowKit
set_option linter.unusedVariables false
/-! loops that carry facts on the world -/
def BlkE (b : Nat) (e : TypeId) (l : List Value) (w : World) : Prop := Blk w b e l
def andE (p q : World → Prop) (w : World) : Prop := p w ∧ q w
def nilE (w : World) : Prop := True
theorem blkE {w : World} {b : Nat} {e : TypeId} {l : List Value} (h : Blk w b e l) : BlkE b e l w := h
theorem andE_mk {p q : World → Prop} {w : World} (h : p w) (k : q w) : andE p q w := ⟨h, k⟩
theorem nilE_mk (w : World) : nilE w := trivial
section
variable {P : Program} {n : Nat} {N T : Act → World → Prop} {X : List (Nat × (Act → World → Prop))} {σ : List Ent} {w : World}
theorem sc_loop3 {c : Code} {α : Type} (I : α → World → Prop) (E : World → Prop) (σc : List Ent) (σf : α → List Ent) (μ : α → Nat) (x0 : α) (h0 : I x0 w) (hE : E w) (hs : Sub (σf x0 ++ σc) σ)
    (round : ∀ x w, I x w → E w → SC P n c (fun a' w' => ∃ y, Kn n (σf y ++ σc) a' ∧ I y w' ∧ E w' ∧ μ y < μ x) X T (σf x ++ σc) w) : SC P n (.loop c) N X T σ w := by
  refine sc_loop (fun x w => I x w ∧ E w) (fun x => σf x ++ σc) μ x0 ⟨h0, hE⟩ hs fun x w ⟨h1, h2⟩ => ?_
  refine fun a ha => Code.wp_mono (fun e a w q => ?_) (round x w h1 h2 a ha)
  cases e with
  | normal => obtain ⟨y, q1, q2, q3, q4⟩ := q; exact ⟨y, q1, ⟨q2, q3⟩, q4⟩
  | _ => exact q
end
theorem krow_ones {w : World} {D : Nat → Prop} : ∀ {ls : List Nd} {news : List Value}, KRow w D ls news → onesB news = true
  | [], news, h => by rw [show news = [] from h]; rfl
  | t :: ls, news, h => by
    obtain ⟨v, r, rfl, hkn, hr⟩ := h
    rw [knd_eq] at hkn
    obtain ⟨p, c, rfl, _⟩ := hkn
    have := krow_ones hr
    unfold onesB at this ⊢
    rw [List.all_append, this, Bool.and_true]; rfl
/-! own rows -/
theorem own_blk {w : World} {base b : Nat} {e : TypeId} {z m : Nat} {l : List Value} (h : Blk w b e l) (hb : base ≤ b) (hl : l.length = m * z) (hm : m ≤ 1000000) : w.ownsRow base e z (.slice (some ⟨b, 0, none⟩) m m) m l :=
  ⟨hl, .inr ⟨b, m, l.toArray, rfl, hb, h, Nat.le_refl _, by simp only [maxLen]; omega, by simpa using hl, by simp [← hl]⟩⟩
/-- New blocks but for some. -/
def Dx (base : Nat) (X : List Nat) (b : Nat) : Prop := base ≤ b ∧ b ∉ X
/-- A list of nodes in a row of one's own: the nodes' own blocks are all of D, the row's too. -/
def OwnK (e : TypeId) (D : Nat → Prop) (base : Nat) (w : World) (ks : List Nd) (s : Value) : Prop :=
  ∃ xs, w.ownsRow base e 9 s ks.length xs ∧ KRow w (fun b => D b ∧ some b ≠ s.ownBlock) ks xs ∧ ∀ b, s.ownBlock = some b → D b
section
variable {e : TypeId} {D : Nat → Prop} {base : Nat} {w w' : World} {ks : List Nd} {s : Value}
theorem ownK_nil (e : TypeId) (D : Nat → Prop) (base : Nat) (w : World) : OwnK e D base w [] (.slice none 0 0) := ⟨[], own_none _ _ _ _, krow_nil, fun b h => by cases h⟩
theorem OwnK.slice (h : OwnK e D base w ks s) : ∃ a c, s = .slice a ks.length c := by
  obtain ⟨xs, h1, _⟩ := h
  obtain ⟨a, c, h2, _⟩ := own_sl h1
  exact ⟨a, c, h2⟩
theorem OwnK.ge (h : OwnK e D base w ks s) : ∀ k, s.ownBlock = some k → base ≤ k := by
  obtain ⟨xs, h1, _⟩ := h
  exact fun k hk => (h1.lt k hk).1
theorem OwnK.lt (h : OwnK e D base w ks s) : ∀ k, s.ownBlock = some k → k < w.heap.size := by
  obtain ⟨xs, h1, _⟩ := h
  exact fun k hk => (h1.lt k hk).2
theorem OwnK.ne (h : OwnK e D base w ks s) {b : Nat} (hb : ¬ D b) : some b ≠ s.ownBlock := by
  obtain ⟨xs, _, _, h3⟩ := h
  exact fun he => hb (h3 b he.symm)
theorem OwnK.grow (h : OwnK e D base w ks s) (g : G w w') : OwnK e D base w' ks s := by
  obtain ⟨xs, h1, h2, h3⟩ := h
  exact ⟨xs, own_grow h1 g, h2.grow g, h3⟩
theorem OwnK.keep (h : OwnK e D base w ks s) {b : Nat} (hg : w.grownBy w' (some b)) (hb : ¬ D b) : OwnK e D base w' ks s := by
  obtain ⟨xs, h1, h2, h3⟩ := h
  refine ⟨xs, own_keep h1 hg (.inr fun he => hb (h3 b he)), h2.keep hg fun k hk _ he => ?_, h3⟩
  injection he with he
  exact hb (he ▸ hk.1)
/-- As children. -/
theorem OwnK.kd (h : OwnK e D base w ks s) {D' : Nat → Prop} (hD : ∀ b, D b → D' b) : Kd w D' ks s := by
  obtain ⟨xs, h1, h2, h3⟩ := h
  exact kd_own h1 rfl (h2.mono fun b hb _ => hD b hb.1) fun b hb => hD b (h3 b hb)
theorem ownK_one {b : Nat} {t : Nd} {v : Value} (h : Blk w b e (ndCells t v)) (hb : base ≤ b) (hk : Kd w (fun k => D k ∧ k ≠ b) t.kids v) (hD : D b) : OwnK e D base w [t] (.slice (some ⟨b, 0, none⟩) 1 1) := by
  refine ⟨_, own_blk h hb rfl (by decide), krow_one (hk.mono fun k hk _ => ⟨hk.1, fun he => ?_⟩), fun k hk => ?_⟩
  · injection he with he; exact hk.2 he
  · injection hk with hk; exact hk ▸ hD
theorem OwnK.append {ls : List Nd} {news : List Value} {a' : Option Addr} {c' : Nat} {xs : List Value} (h : OwnK e D base w ks s) (hx : w.ownsRow base e 9 s ks.length xs) (hX : KRow w (fun b => D b ∧ some b ≠ s.ownBlock) ks xs)
    (hn : KRow w (fun b => D b ∧ some b ≠ s.ownBlock) ls news) (hD : D w.heap.size) (ho : w'.ownsRow base e 9 (.slice a' (ks.length + ls.length) c') (ks.length + ls.length) (xs ++ news)) (hg : w.grownBy w' s.ownBlock)
    (hat : (Value.slice a' (ks.length + ls.length) c').ownBlock = s.ownBlock ∨ (Value.slice a' (ks.length + ls.length) c').ownBlock = some w.heap.size) : OwnK e D base w' (ks ++ ls) (.slice a' (ks ++ ls).length c') := by
  have hlen : (ks ++ ls).length = ks.length + ls.length := by simp
  refine ⟨xs ++ news, by rw [hlen]; exact ho, ?_, ?_⟩
  · have h1 := krow_append hX hn
    rw [hlen]
    refine krow_frame (fun b hb hlt => ⟨hb.1, ?_⟩) (fun b hb hlt => hg.block b hlt hb.2) _ _ h1
    rcases hat with he | he <;> rw [he]
    · exact hb.2
    · intro e; injection e with e; omega
  · rw [hlen]
    intro b hb
    rcases hat with he | he <;> rw [he] at hb
    · obtain ⟨_, _, _, h3⟩ := h; exact h3 b hb
    · injection hb with hb; exact hb ▸ hD
end
section
variable {P : Program} {Z : List PanicEntry → Act → World → Prop} {ops : List Oper} {cl : List Nat} {lv : List Bool} {W0 : World} {n : Nat} {K : Act → World → Prop} {k : Nat} {rest : List Oper} {σ : List Ent} {w : World} {d : Nat} {ty : TypeId} {pos : String} {after : Array Edge}
/-- append of nodes to a row of one's own. -/
theorem sr_appendK {t e base q q' : Nat} {x y : Operand} {s zv : Value} {news : List Value} {b' o' : Nat} {D : Nat → Prop} {ks ls : List Nd} (hb : (Nat.beq (clOf cl k) 2 && Nat.blt d n) = true) (ht : tyElem P t = some (e, 9, 104)) (hzv : zeroOf P e = some zv)
    (hzs : zv.cells.size = 9) (hx : Ev n σ True x s) (hO : OwnK e D base w ks s) (hy : Ev n σ True y (.slice (some ⟨b', o', none⟩) q q')) (hq : ls.length = q) (hn : RowAt w b' o' news) (hK : KRow w (fun b => D b ∧ some b ≠ s.ownBlock) ls news)
    (hlen : ks.length + ls.length ≤ 10000000) (hbase : base ≤ w.heap.size) (hD : D w.heap.size)
    (h : ∀ a' c' w', OwnK e D base w' (ks ++ ls) (.slice a' (ks ++ ls).length c') → w.grownBy w' s.ownBlock → SR P Z ops cl lv W0 n K (k + 1) rest ((d, True, .slice a' (ks ++ ls).length c') :: σ) w') :
    SR P Z ops cl lv W0 n K k (⟨some d, .call { callee := .builtin .append, args := #[x, y], argTypes := #[t, t] }, ty, pos, after, none⟩ :: rest) σ w := by
  obtain ⟨xs, h1, h2, h3⟩ := id hO
  subst hq
  have ones := krow_ones hK
  refine sr_append hb ht hzv hzs (by decide) hx h1 hy (krow_length hK) hn ones (by simp only [maxLen]; omega) (by omega) hbase fun a' c' w' ho hg hat => ?_
  have := h a' c' w' (hO.append h1 h2 hK hD ho hg hat) hg
  rwa [List.length_append] at this
end
end Go.Rk
namespace Go.Rk
open Go Go.RowKit
theorem take_step {α : Type} {l : List α} {i : Nat} (h : i < l.length) : l.take (i + 1) = l.take i ++ [l[i]] := by
  rw [List.take_add_one, List.getElem?_eq_getElem h]; rfl
/-- A tree comes back in new memory. -/
def RetNd (t : Nd) (base : Nat) (r : Value) (w : World) : Prop := ∃ p c, r = ndV t (.slice p t.kids.length c) ∧ Kd w (fun b => base ≤ b) t.kids (.slice p t.kids.length c)
theorem rcopy_ok : ∀ (t : Nd) (v : Value) (D : Nat → Prop) (w : World), Kd w D t.kids v → t.kids.length ≤ 1000000 → count t ≤ 1000000 → Ret PP fn_r03_Copy #[ndV t v] w fun r w' => RetNd t w.heap.size r w' ∧ G w w' := by
  refine Nd.ind fun t ih v D w hk hlen hc => ?_
  obtain ⟨p, c, rfl, hcap, hks⟩ := hk
  have g := G.refl w
  refine ret_of_sc (m := 25) func_r03_Copy rfl rfl [(0, True, _)] (sub_cons rfl (sub_nil _)) ?_
  refine sc_seq fun K1 hK1 => ?_
  refine sc_text [1, 1] ?_
  refine sr_box rfl (ev_t rfl) rfl ?_
  intro b1 w1 N1
  have l1 := N1.ge g
  have g := g.trans (N1.g)
  try have hO := hO.grow (N1.g)
  have B1 := N1.blk
  refine sr_alloc rfl ze_api_Node rfl ?_
  intro b2 w2 N2
  have x2_1 := N2.ne B1
  have l2 := N2.ge g
  have g := g.trans (N2.g)
  replace B1 := B1.grow (N2.g)
  try have hO := hO.grow (N2.g)
  have B2 := N2.blk
  refine sr_sub [(1, _, _), (2, _, _)] (sub_cons rfl (sub_cons rfl (sub_nil _))) ?_
  refine sr_nil (hK1 _ _ ?_)
  refine sc_seq fun K2 hK2 => ?_
  refine sc_text [3, 0, 3] ?_
  refine sr_pu rfl (fun _ => rd_field fo_api_Node_4 (ev_t rfl)) ?_
  refine sr_rd rfl (rd_load one_sl_api_Node (ev_t rfl) (fun _ => B1.at_ rfl)) ?_
  refine sr_pu rfl (fun _ => rd_assign (ev_t rfl)) ?_
  refine sr_sub [(1, _, _), (2, _, _), (3, _, _)] (sub_cons rfl (sub_cons rfl (sub_cons rfl (sub_nil _)))) ?_
  refine sr_nil (hK2 _ _ ?_)
  refine sc_seq fun K3 hK3 => ?_
  refine sc_text [3, 2] ?_
  refine sr_pu rfl (fun _ => rd_field fo_api_Node_4 (ev_t rfl)) ?_
  refine sr_store_one rfl sz_sl_api_Node (ev_t rfl) ev_c rfl B1 rfl rfl ?_
  intro wS1 hgS1 hzS1
  clear B1
  intro B1
  replace B2 := B2.keep hgS1 (by intro h; injection h with h; first | exact x1_2 h.symm | exact x2_1 h | omega)
  have g := g_only g hgS1 (by intro k hk; injection hk with hk; omega)
  refine sr_sub [(1, _, _), (2, _, _), (3, _, _)] (sub_cons rfl (sub_cons rfl (sub_cons rfl (sub_nil _)))) ?_
  refine sr_nil (hK3 _ _ ?_)
  refine sc_seq fun K4 hK4 => ?_
  refine sc_seq fun K5 hK5 => ?_
  refine sc_text [3] ?_
  refine sr_pu rfl (fun _ => rd_assign ev_c) ?_
  refine sr_nil (hK5 _ _ ?_)
  refine sc_block ?_
  refine sc_loop3 (fun (i : Nat) u1 => (i ≤ t.kids.length ∧ ∃ s, Blk u1 b1 ty_api_Node (ndCells t s) ∧ OwnK ty_api_Node (Dx w.heap.size [b1, b2]) w.heap.size u1 (t.kids.take i) s) ∧ G w u1) _ [(1, True, _), (2, True, _), (3, True, _)] (fun (i : Nat) => [(4, True, .int .i64 i)]) (fun (i : Nat) => t.kids.length - i) (0) ⟨⟨Nat.zero_le _, _, B1, ownK_nil _ _ _ _⟩, g⟩ (andE_mk (blkE B2) (nilE_mk _)) (sub_cons rfl (sub_cons rfl (sub_cons rfl (sub_cons rfl (sub_nil _))))) ?_
  clear B1 B2
  rintro i u1 ⟨hI1, gl1⟩ ⟨B2, _⟩
  replace B2 : Blk _ _ _ _ := B2
  have g := gl1
  obtain ⟨hi, s, B1, hO⟩ := hI1
  obtain ⟨sa, sc, rfl⟩ := hO.slice
  refine sc_seq fun K6 hK6 => ?_
  refine sc_seq fun K7 hK7 => ?_
  refine sc_text [3, 3, 3, 3] ?_
  refine sr_pu rfl (fun _ => rd_move (ev_t rfl)) ?_
  refine sr_pu rfl (fun _ => rd_move (ev_t rfl)) ?_
  refine sr_pu rfl (fun _ => rd_len el_sl_api_Node (ev_t rfl)) ?_
  refine sr_pu rfl (fun _ => rd_lt (ev_t rfl) (ev_t rfl)) ?_
  refine sr_sub [(1, _, _), (2, _, _), (3, _, _), (4, _, _), (11, _, _)] (sub_cons rfl (sub_cons rfl (sub_cons rfl (sub_cons rfl (sub_cons rfl (sub_nil _)))))) ?_
  refine sr_nil (hK7 _ _ ?_)
  refine sc_cond (ev_t rfl) (fun h1 => ?_) (fun h1 => ?_)
  · replace h1 : i < t.kids.length := by simp only [decide_eq_true_eq] at h1; omega
    obtain ⟨b, o, rfl, hD, xs, hR, hX⟩ := hks (by omega)
    obtain ⟨p', c', hcell, hkid⟩ := kd_at hR hX h1
    have hck := count_kid h1
    have hkl := kids_le t.kids[i]
    have hu := g.size
    refine sc_skip (hK6 _ _ ?_)
    refine sc_sub [(1, _, _), (2, _, _), (3, _, _), (4, _, _)] (sub_cons rfl (sub_cons rfl (sub_cons rfl (sub_cons rfl (sub_nil _))))) ?_
    refine sc_seq fun K8 hK8 => ?_
    refine sc_block ?_
    refine sc_draw [3, 0, 3, 3, 3, 0, 1, 1, 2, 3, 2] [true, true, true, true, true, true, true, true, true, true, true] [0, 1, 0, 0, 12, 28, 60, 124, 255, 511, 1023] mix (by kernel_rfl) ?_
    have g := g.trans (G.drew _)
    replace B1 := B1.grow (G.drew _)
    replace B2 := B2.grow (G.drew _)
    try have hO := hO.grow (G.drew _)
    have hB1lt := B1.lt
    have hB2lt := B2.lt
    have hOlt := hO.lt
    refine sr_pu rfl (fun _ => rd_field fo_api_Node_4 (ev_t rfl)) ?_
    refine sr_rd rfl (rd_load one_sl_api_Node (ev_t rfl) (fun _ => B1.at_ rfl)) ?_
    refine sr_pu rfl (fun _ => rd_move (ev_t rfl)) ?_
    refine sr_pu rfl (fun _ => rd_move (ev_t rfl)) ?_
    refine sr_pu rfl (fun _ => rd_idx el_sl_api_Node (ev_t rfl) (ev_t rfl) (fun _ => by omega)) ?_
    refine sr_rd rfl (rd_loads agg_api_Node (ev_t rfl) rfl (fun _ => hcell.grow g)) ?_
    refine sr_call rfl (rc_call go_r03_Copy ev_f (args_cons (ev_t rfl) (args_nil)) rfl) (ih _ (List.getElem_mem h1) _ _ _ (hkid.grow g) (by omega) (by omega)) ?_
    rintro v20 w20 ⟨⟨p2, c2, rfl, hk2⟩, g20⟩
    refine ⟨fun _ => g20, ?_⟩
    have g := g.trans g20
    replace B1 := B1.grow (g20)
    replace B2 := B2.grow (g20)
    try have hO := hO.grow (g20)
    refine sr_buildSlice [_, _, _, _, _, _, _, _, _] rfl el_sl_api_Node ze_api_Node (parts_cons (ev_t rfl) (parts_nil)) rfl rfl ?_
    intro b21 w21 N21
    have x21_1 := N21.ne B1
    have x21_2 := N21.ne B2
    have l21 := N21.ge g
    have g := g.trans (N21.g)
    replace B1 := B1.grow (N21.g)
    replace B2 := B2.grow (N21.g)
    try have hO := hO.grow (N21.g)
    have B21 := N21.blk
    have hk2 := hk2.grow N21.g
    have hOo := hO
    refine sr_appendK rfl el_sl_api_Node ze_api_Node rfl (ev_t rfl) hO (ev_t rfl) rfl B21.row (krow_one (hk2.mono fun k hk _ => ⟨⟨by have : u1.heap.size ≤ k := hk; omega, by have : u1.heap.size ≤ k := hk; have := hB1lt; have := hB2lt; simp; omega⟩, fun he => by have := hOlt k he.symm; have : u1.heap.size ≤ k := hk; omega⟩)) (by simp; omega) (by have := g.size; omega) ⟨by have := g.size; omega, by have q1 := B1.lt; have q2 := B2.lt; simp; omega⟩ ?_
    intro a22 c22 w22 hO hg22
    replace B1 := B1.keep hg22 (hOo.ne (by simp [Dx]))
    replace B2 := B2.keep hg22 (hOo.ne (by simp [Dx]))
    have g := g_only g hg22 (fun k hk => hOo.ge k hk)
    refine sr_pu rfl (fun _ => rd_field fo_api_Node_4 (ev_t rfl)) ?_
    refine sr_store_one rfl sz_sl_api_Node (ev_t rfl) (ev_t rfl) rfl B1 rfl rfl ?_
    intro wS2 hgS2 hzS2
    clear B1
    intro B1
    replace B2 := B2.keep hgS2 (by intro h; injection h with h; first | exact x1_2 h.symm | exact x2_1 h | omega)
    have g := g_only g hgS2 (by intro k hk; injection hk with hk; omega)
    have hO := hO.keep hgS2 (by simp [Dx])
    refine sr_sub [(1, _, _), (2, _, _), (3, _, _), (4, _, _)] (sub_cons rfl (sub_cons rfl (sub_cons rfl (sub_cons rfl (sub_nil _))))) ?_
    refine sr_nil (hK8 _ _ ?_)
    refine sc_text [3, 3, 3] ?_
    refine sr_pu rfl (fun _ => rd_move (ev_t rfl)) ?_
    refine sr_pu rfl (fun _ => rd_add (ev_t rfl) ev_c (fun _ => by omega)) ?_
    refine sr_pu rfl (fun _ => rd_assign (ev_t rfl)) ?_
    refine sr_sub [(4, _, _), (1, _, _), (2, _, _), (3, _, _)] (sub_cons rfl (sub_cons rfl (sub_cons rfl (sub_cons rfl (sub_nil _))))) ?_
    refine sr_nil (fun a ha => ?_)
    exact ⟨i + 1, ha, ⟨⟨h1, _, B1, by rw [take_step h1]; exact hO⟩, g⟩, (andE_mk (blkE B2) (nilE_mk _)), by omega⟩
  replace h1 : i = t.kids.length := by simp only [decide_eq_false_iff_not] at h1; omega
  subst h1
  rw [List.take_length] at hO B1
  refine sc_exit rfl (hK4 _ _ ?_)
  refine sc_sub [(1, _, _), (2, _, _)] (sub_cons rfl (sub_cons rfl (sub_nil _))) ?_
  refine sc_seq fun K9 hK9 => ?_
  refine sc_text [0, 2] ?_
  refine sr_rd rfl (rd_loads agg_api_Node (ev_t rfl) rfl (fun _ => B1.row)) ?_
  refine sr_store_all rfl sz_api_Node (ev_t rfl) (ev_t rfl) rfl rfl B2 rfl rfl ?_
  intro wS3 hgS3 hzS3
  clear B2
  intro B2
  replace B1 := B1.keep hgS3 (by intro h; injection h with h; first | exact x2_1 h.symm | exact x1_2 h | omega)
  have g := g_only g hgS3 (by intro k hk; injection hk with hk; omega)
  have hO := hO.keep hgS3 (by simp [Dx])
  refine sr_nil (hK9 _ _ ?_)
  refine sc_ret (t_retv1 rfl (evr_c rfl agg_api_Node rfl (by first | exact B1.row | exact B2.row) (evr_nil)) ?_)
  exact ⟨⟨_, _, rfl, hO.kd fun b hb => hb.1⟩, g⟩
def listN (t : Nd) : List Nd := para (fun t l => t :: l.flatten) t
theorem listN_eq (t : Nd) : listN t = t :: t.kids.flatMap listN := by rw [listN, para_eq, List.flatMap_def]; rfl
theorem listN_length : ∀ t, (listN t).length = count t := by
  refine Nd.ind fun t ih => ?_
  rw [listN_eq, count_eq, List.length_cons, List.length_flatMap, Nat.add_comm]
  congr 2
  exact List.map_congr_left ih
theorem listN_mem : ∀ (t : Nd) (x : Nd), x ∈ listN t → count x ≤ count t := by
  refine Nd.ind fun t ih x hx => ?_
  rw [listN_eq] at hx
  rcases List.mem_cons.1 hx with rfl | hx
  · exact Nat.le_refl _
  · obtain ⟨k, hk, hx⟩ := List.mem_flatMap.1 hx
    have := ih k hk x hx
    have := count_mem hk
    omega
theorem flatMap_take_succ {l : List Nd} {i : Nat} (h : i < l.length) : (l.take (i + 1)).flatMap listN = (l.take i).flatMap listN ++ listN l[i] := by rw [take_step h, List.flatMap_append]; simp only [List.flatMap_cons, List.flatMap_nil, List.append_nil]
theorem flatMap_take_len (l : List Nd) (i : Nat) : ((l.take i).flatMap listN).length = ((l.take i).map count).sum := by
  rw [List.length_flatMap]; congr 1; exact List.map_congr_left fun k _ => listN_length k
theorem rlist_ok : ∀ (t : Nd) (v : Value) (D : Nat → Prop) (w : World), Kd w D t.kids v → count t ≤ 1000000 → Ret PP fn_r03_List #[ndV t v] w fun r w' => Kd w' (fun b => D b ∨ w.heap.size ≤ b) (listN t) r ∧ G w w' := by
  refine Nd.ind fun t ih v D w hk hc => ?_
  obtain ⟨p, c, rfl, hcap, hks⟩ := hk
  have hlen := kids_le t
  have hk0 : Kd w (fun b => D b ∧ b < w.heap.size) t.kids (.slice p t.kids.length c) := Kd.lt ⟨p, c, rfl, hcap, hks⟩
  have g := G.refl w
  refine ret_of_sc (m := 23) func_r03_List rfl rfl [(0, True, _)] (sub_cons rfl (sub_nil _)) ?_
  refine sc_seq fun K1 hK1 => ?_
  refine sc_text [1, 3] ?_
  refine sr_box rfl (ev_t rfl) rfl ?_
  intro b1 w1 N1
  have l1 := N1.ge g
  have g := g.trans (N1.g)
  try have hO := hO.grow (N1.g)
  have B1 := N1.blk
  refine sr_pu rfl (fun _ => rd_assign ev_c) ?_
  refine sr_sub [(1, _, _), (2, _, _)] (sub_cons rfl (sub_cons rfl (sub_nil _))) ?_
  refine sr_nil (hK1 _ _ ?_)
  refine sc_seq fun K2 hK2 => ?_
  refine sc_text [0, 1, 3] ?_
  refine sr_rd rfl (rd_loads agg_api_Node (ev_t rfl) rfl (fun _ => B1.row)) ?_
  refine sr_buildSlice [_, _, _, _, _, _, _, _, _] rfl el_sl_api_Node ze_api_Node (parts_cons (ev_t rfl) (parts_nil)) rfl rfl ?_
  intro b6 w6 N6
  have x6_1 := N6.ne B1
  have l6 := N6.ge g
  have g := g.trans (N6.g)
  replace B1 := B1.grow (N6.g)
  try have hO := hO.grow (N6.g)
  have B6 := N6.blk
  have hO : OwnK ty_api_Node (fun b => (D b ∧ b < w.heap.size) ∨ Dx w.heap.size [b1] b) w.heap.size w6 [t] (.slice (some ⟨b6, 0, none⟩) 1 1) := ownK_one B6 l6 ((hk0.grow g).mono fun k hk _ => ⟨.inl hk, by omega⟩) (.inr ⟨l6, by simp; omega⟩)
  refine sr_pu rfl (fun _ => rd_assign (ev_t rfl)) ?_
  refine sr_sub [(1, _, _), (2, _, _), (3, _, _)] (sub_cons rfl (sub_cons rfl (sub_cons rfl (sub_nil _)))) ?_
  refine sr_nil (hK2 _ _ ?_)
  refine sc_seq fun K3 hK3 => ?_
  refine sc_seq fun K4 hK4 => ?_
  refine sc_text [3] ?_
  refine sr_pu rfl (fun _ => rd_assign ev_c) ?_
  refine sr_nil (hK4 _ _ ?_)
  refine sc_block ?_
  refine sc_loop3 (fun (x : Nat × Option Addr × Nat) u1 => match x with | ⟨i, a, ca⟩ => (i ≤ t.kids.length ∧ OwnK ty_api_Node (fun b => (D b ∧ b < w.heap.size) ∨ Dx w.heap.size [b1] b) w.heap.size u1 (t :: (t.kids.take i).flatMap listN) (.slice a (t :: (t.kids.take i).flatMap listN).length ca)) ∧ G w u1) _ [(1, True, _), (2, True, _)] (fun (x : Nat × Option Addr × Nat) => match x with | ⟨i, a, ca⟩ => [(3, True, .slice a (t :: (t.kids.take i).flatMap listN).length ca), (4, True, .int .i64 i)]) (fun (x : Nat × Option Addr × Nat) => match x with | ⟨i, a, ca⟩ => t.kids.length - i) ((0, some ⟨b6, 0, none⟩, 1)) ⟨⟨Nat.zero_le _, hO⟩, g⟩ (andE_mk (blkE B1) (nilE_mk _)) (sub_cons rfl (sub_cons rfl (sub_cons rfl (sub_cons rfl (sub_nil _))))) ?_
  clear B1 B6
  rintro ⟨i, a, ca⟩ u1 ⟨hI1, gl1⟩ ⟨B1, _⟩
  replace B1 : Blk _ _ _ _ := B1
  have g := gl1
  obtain ⟨hi, hO⟩ := hI1
  refine sc_seq fun K5 hK5 => ?_
  refine sc_seq fun K6 hK6 => ?_
  refine sc_text [3, 3, 0, 3, 3] ?_
  refine sr_pu rfl (fun _ => rd_move (ev_t rfl)) ?_
  refine sr_pu rfl (fun _ => rd_field fo_api_Node_4 (ev_t rfl)) ?_
  refine sr_rd rfl (rd_load one_sl_api_Node (ev_t rfl) (fun _ => B1.at_ rfl)) ?_
  refine sr_pu rfl (fun _ => rd_len el_sl_api_Node (ev_t rfl)) ?_
  refine sr_pu rfl (fun _ => rd_lt (ev_t rfl) (ev_t rfl)) ?_
  refine sr_sub [(1, _, _), (2, _, _), (3, _, _), (4, _, _), (11, _, _)] (sub_cons rfl (sub_cons rfl (sub_cons rfl (sub_cons rfl (sub_cons rfl (sub_nil _)))))) ?_
  refine sr_nil (hK6 _ _ ?_)
  refine sc_cond (ev_t rfl) (fun h1 => ?_) (fun h1 => ?_)
  · replace h1 : i < t.kids.length := by simp only [decide_eq_true_eq] at h1; omega
    obtain ⟨b, o, rfl, hD, xs, hR, hX⟩ := hks (by omega)
    obtain ⟨p', c', hcell, hkid⟩ := kd_at hR hX h1
    have hck := count_kid h1
    have hcl := flatMap_take_len t.kids i
    have hu := g.size
    have hB1lt := B1.lt
    have hOlt := hO.lt
    refine sc_skip (hK5 _ _ ?_)
    refine sc_sub [(1, _, _), (2, _, _), (3, _, _), (4, _, _)] (sub_cons rfl (sub_cons rfl (sub_cons rfl (sub_cons rfl (sub_nil _))))) ?_
    refine sc_seq fun K7 hK7 => ?_
    refine sc_block ?_
    refine sc_text [3, 3, 0, 3, 3, 0, 1, 2, 3] ?_
    refine sr_pu rfl (fun _ => rd_move (ev_t rfl)) ?_
    refine sr_pu rfl (fun _ => rd_field fo_api_Node_4 (ev_t rfl)) ?_
    refine sr_rd rfl (rd_load one_sl_api_Node (ev_t rfl) (fun _ => B1.at_ rfl)) ?_
    refine sr_pu rfl (fun _ => rd_move (ev_t rfl)) ?_
    refine sr_pu rfl (fun _ => rd_idx el_sl_api_Node (ev_t rfl) (ev_t rfl) (fun _ => by omega)) ?_
    refine sr_rd rfl (rd_loads agg_api_Node (ev_t rfl) rfl (fun _ => hcell.grow g)) ?_
    refine sr_call rfl (rc_call go_r03_List ev_f (args_cons (ev_t rfl) (args_nil)) rfl) (ih _ (List.getElem_mem h1) _ (fun b => D b ∧ b < w.heap.size) _ (hkid.old g) (by omega)) ?_
    rintro v20 w20 ⟨⟨p2, c2, rfl, hc2, hr2⟩, g20⟩
    refine ⟨fun _ => g20, ?_⟩
    have g := g.trans g20
    have hln := listN_length t.kids[i]
    have hpos := count_pos t.kids[i]
    obtain ⟨b2, o2, rfl, hD2, ys, hR2, hX2⟩ := hr2 (by omega)
    replace B1 := B1.grow (g20)
    try have hO := hO.grow (g20)
    have hOo := hO
    refine sr_appendK rfl el_sl_api_Node ze_api_Node rfl (ev_t rfl) hO (ev_t rfl) rfl hR2 (hX2.mono fun k hk _ => ⟨hk.elim .inl fun h => .inr ⟨by have h : u1.heap.size ≤ k := h; omega, by have h : u1.heap.size ≤ k := h; simp; omega⟩, fun he => by have := hOlt k he.symm; have hge := hO.ge k he.symm; rcases hk with ⟨_, h⟩ | h <;> omega⟩) (by rw [List.length_cons]; omega) (by have := g.size; omega) (.inr ⟨by have := g.size; omega, by have := B1.lt; simp; omega⟩) ?_
    intro a21 c21 w21 hO hg21
    replace B1 := B1.keep hg21 (hOo.ne (by rintro (h | h); exact absurd h.2 (by omega); simp [Dx] at h))
    have g := g_only g hg21 (fun k hk => hOo.ge k hk)
    refine sr_pu rfl (fun _ => rd_assign (ev_t rfl)) ?_
    refine sr_sub [(1, _, _), (2, _, _), (3, _, _), (4, _, _)] (sub_cons rfl (sub_cons rfl (sub_cons rfl (sub_cons rfl (sub_nil _))))) ?_
    refine sr_nil (hK7 _ _ ?_)
    refine sc_text [3, 3, 3] ?_
    refine sr_pu rfl (fun _ => rd_move (ev_t rfl)) ?_
    refine sr_pu rfl (fun _ => rd_add (ev_t rfl) ev_c (fun _ => by omega)) ?_
    refine sr_pu rfl (fun _ => rd_assign (ev_t rfl)) ?_
    refine sr_sub [(3, _, _), (4, _, _), (1, _, _), (2, _, _)] (sub_cons rfl (sub_cons rfl (sub_cons rfl (sub_cons rfl (sub_nil _))))) ?_
    refine sr_nil (fun a ha => ?_)
    rw [show t :: (t.kids.take i).flatMap listN ++ listN t.kids[i] = t :: (t.kids.take (i + 1)).flatMap listN by rw [flatMap_take_succ h1]; rfl] at ha hO
    exact ⟨(i + 1, a21, c21), ha, ⟨⟨h1, hO⟩, g⟩, (andE_mk (blkE B1) (nilE_mk _)), by show t.kids.length - (i + 1) < t.kids.length - i; omega⟩
  replace h1 : i = t.kids.length := by simp only [decide_eq_false_iff_not] at h1; omega
  subst h1
  rw [List.take_length, ← listN_eq] at hO
  refine sc_exit rfl (hK3 _ _ ?_)
  refine sc_sub [(2, _, _), (3, _, _)] (sub_cons rfl (sub_cons rfl (sub_nil _))) ?_
  refine sc_seq fun K8 hK8 => ?_
  refine sc_text [3, 3] ?_
  refine sr_pu rfl (fun _ => rd_move (ev_t rfl)) ?_
  refine sr_pu rfl (fun _ => rd_assign (ev_t rfl)) ?_
  refine sr_nil (hK8 _ _ ?_)
  refine sc_ret (t_ret1 rfl rfl ?_)
  refine ⟨?_, g⟩
  rw [List.take_length, ← listN_eq]
  exact hO.kd fun b hb => hb.elim (fun h => .inl h.1) (fun h => .inr h.1)
end Go.Rk
namespace Go.Rk
open Go Go.RowKit
def typeNames : List (List UInt8) := [[105, 110, 116], [98, 111, 111, 108], [91, 93, 105, 110, 116], [99, 104, 97, 110], [102, 117, 110, 99], [109, 117, 116, 101, 120], [114, 119, 109, 117, 116, 101, 120], [103, 114, 111, 117, 112], [111, 110, 99, 101], [97, 116, 111, 109, 105, 99]]
def typeNameB (s : List UInt8) : Bool := anyS typeNames s
def leafB (t : Nd) : Bool := decide ((t.kids.length : Int) = 0)
def isTypeB (t : Nd) : Bool := bif decide (t.kind = 8) then nameB t.text && leafB t else bif decide (t.kind = 7) then typeNameB t.text && leafB t else false
def binOps : List (List UInt8) := [[124, 124], [38, 38], [61, 61], [33, 61], [60], [60, 61], [62], [62, 61], [43], [45], [42], [47], [37]]
end Go.Rk
namespace Go.Rk
open Go Go.RowKit
set_option linter.unusedVariables false
/-! frames without their deferred calls -/
def wd (ds : List Deferred) (a : Act) : Act := { a with defers := ds }
theorem wd_put (ds : List Deferred) (a : Act) (d : Option Tmp) (v : Value) : (wd ds a).put d v = wd ds (a.put d v) := by cases d <;> rfl
theorem wd_self (a : Act) : wd a.defers (wd [] a) = a := by cases a; rfl
theorem wd_strip {a : Act} (h : a.defers = []) (ds : List Deferred) : wd [] (wd ds a) = a := by cases a; cases h; rfl
theorem Kn.strip {n : Nat} {σ : List Ent} {a : Act} (h : Kn n σ a) (ds : List Deferred) : wd [] (wd ds a) = a := wd_strip h.2.1 ds
theorem put_defers (a : Act) (d : Option Tmp) (v : Value) : (a.put d v).defers = a.defers := by cases d <;> rfl
/-- What is asked of a frame with its deferred calls. -/
abbrev DPost := List Deferred → Act → World → Prop
def onD (N : DPost) (a : Act) (w : World) : Prop := N a.defers (wd [] a) w
theorem RS.wd {P : Program} {Z : List PanicEntry → DPost} {ops : Array Oper} {cl : Nat → Nat} {lv : Nat → Bool} {W0 : World} {N : DPost} (ds : List Deferred) : ∀ (L : List Nat) (a : Act) (w : World), a.defers = [] →
    RS P (fun ch a w => Z ch ds a w) ops cl lv W0 (N ds) L a w → RS P (fun ch => onD (Z ch)) ops cl lv W0 (onD N) L (wd ds a) w
  | [], a, w, h0, h => by
    show N ds (Go.Rk.wd [] (Go.Rk.wd ds a)) w
    rw [wd_strip h0]; exact h
  | i :: rest, a, w, h0, ⟨o, ho, hb⟩ => by
    refine ⟨o, ho, ?_⟩
    by_cases hc : cl i = 0 ∨ cl i = 3
    · rw [if_pos hc] at hb ⊢
      obtain ⟨v, h1, h2, h3⟩ := hb
      refine ⟨v, h1, h2, ?_⟩
      rw [wd_put]; exact RS.wd ds rest _ _ ((put_defers a o.dst v).trans h0) h3
    · rw [if_neg hc] at hb ⊢
      by_cases hw : Region.wanted o (yielded ops a.tmps) = true
      · rw [if_pos hw] at hb
        refine (if_pos (show Region.wanted o (yielded ops (Go.Rk.wd ds a).tmps) = true from hw)).mpr ?_
        refine Eff.turn (a := a) (b := Go.Rk.wd ds a) rfl (fun ch w' hz => ?_) (fun v w' _ hk => ?_) hb
        · show Z ch ds (Go.Rk.wd [] (Go.Rk.wd ds a)) w'
          rw [wd_strip h0]; exact hz
        · rw [wd_put]; exact RS.wd ds rest _ _ ((put_defers a o.dst v).trans h0) hk
      · rw [if_neg hw] at hb
        refine (if_neg (show ¬ Region.wanted o (yielded ops (Go.Rk.wd ds a).tmps) = true from hw)).mpr ?_
        rw [wd_put]; exact RS.wd ds rest _ _ ((put_defers a o.dst undef).trans h0) hb
theorem RT.wd {P : Program} {Z : List PanicEntry → DPost} {ops : Array Oper} {cl : Nat → Nat} {wt : Nat → Nat → Bool} {row : Option Nat} {N : DPost} (ds : List Deferred) : ∀ (m : Nat) (L : List Nat) (a : Act) (w : World), a.defers = [] →
    RT P (fun ch a w => Z ch ds a w) ops cl wt row (N ds) m L a w → RT P (fun ch => onD (Z ch)) ops cl wt row (onD N) m L (wd ds a) w
  | 0, L, a, w, h0, h => ⟨h.1, by
    show N ds (Go.Rk.wd [] (Go.Rk.wd ds a)) w
    rw [wd_strip h0]; exact h.2⟩
  | m + 1, L, a, w, h0, .inl ⟨r, hr, hav, hc, o, ho, v, h1, h2, h3⟩ => .inl ⟨r, hr, hav, hc, o, ho, v, h1, h2, by
    rw [wd_put]; exact RT.wd ds m _ _ _ ((put_defers a o.dst v).trans h0) h3⟩
  | m + 1, L, a, w, h0, .inr ⟨hno, hall⟩ => .inr ⟨hno, fun j hj hav => by
    obtain ⟨o, ho, hb⟩ := hall j hj hav
    refine ⟨o, ho, ?_⟩
    by_cases hw : Region.wanted o (yielded ops a.tmps) = true
    · rw [if_pos hw] at hb
      refine (if_pos (show Region.wanted o (yielded ops (Go.Rk.wd ds a).tmps) = true from hw)).mpr ?_
      refine EffQ.turn (a := a) (b := Go.Rk.wd ds a) rfl (fun ch w' hz => ?_) (fun v w' _ hk => ?_) hb
      · show Z ch ds (Go.Rk.wd [] (Go.Rk.wd ds a)) w'
        rw [wd_strip h0]; exact hz
      · rw [wd_put]; exact RT.wd ds m _ _ _ ((put_defers a o.dst v).trans h0) hk
    · rw [if_neg hw] at hb
      refine (if_neg (show ¬ Region.wanted o (yielded ops (Go.Rk.wd ds a).tmps) = true from hw)).mpr ?_
      rw [wd_put]; exact RT.wd ds m _ _ _ ((put_defers a o.dst undef).trans h0) hb⟩
/-- What is asked where a piece of code ends. -/
def QofD (N : DPost) (X : List (Nat × DPost)) (T : DPost) (Z : List PanicEntry → DPost) : Exit → Act → World → Prop
  | .normal, a, w => onD N a w
  | .ret, a, w => onD T a w
  | .exit id, a, w => match X.lookup id with | some k => onD k a w | none => False
  | .panic ch, a, w => onD (Z ch) a w
  | _, _, _ => False
def SCD (P : Program) (ρ : Option Nat) (n : Nat) (ds : List Deferred) (c : Code) (N : DPost) (X : List (Nat × DPost)) (T : DPost) (Z : List PanicEntry → DPost) (σ : List Ent) (w : World) : Prop :=
  ∀ a, Kn n σ a → c.wpIn (WF ρ) 0 P (QofD N X T Z) (wd ds a) w
section
variable {P : Program} {ρ : Option Nat} {n : Nat} {ds : List Deferred} {N T : DPost} {X : List (Nat × DPost)} {Z : List PanicEntry → DPost} {σ : List Ent} {w : World}
theorem scd_sub {c : Code} (τ : List Ent) (hs : Sub τ σ) (h : SCD P ρ n ds c N X T Z τ w) : SCD P ρ n ds c N X T Z σ w := fun a ha => h a (ha.sub hs)
theorem scd_seq {x y : Code} (h : ∀ K : DPost, (∀ ds τ u, SCD P ρ n ds y N X T Z τ u → ∀ a, Kn n τ a → K ds a u) → SCD P ρ n ds x K X T Z σ w) : SCD P ρ n ds (.seq x y) N X T Z σ w := fun a ha => by
  refine wpIn_seq (wpIn_mono (h (fun ds a w => y.wpIn (WF ρ) 0 P (QofD N X T Z) (wd ds a) w) (fun ds τ u hy a ha => hy a ha) a ha) (fun e a w q => ?_))
  cases e with
  | normal =>
    have q : y.wpIn (WF ρ) 0 P (QofD N X T Z) (wd a.defers (wd [] a)) w := q
    rw [wd_self] at q; exact q
  | _ => exact q
theorem scd_skip (h : ∀ a, Kn n σ a → N ds a w) : SCD P ρ n ds .skip N X T Z σ w := fun a ha => wpIn_skip (show N ds (wd [] (wd ds a)) w by rw [ha.strip]; exact h a ha)
theorem scd_ret (h : ∀ a, Kn n σ a → T ds a w) : SCD P ρ n ds .ret N X T Z σ w := fun a ha => wpIn_ret (show T ds (wd [] (wd ds a)) w by rw [ha.strip]; exact h a ha)
theorem scd_exit {id : Nat} {k : DPost} (hk : X.lookup id = some k) (h : ∀ a, Kn n σ a → k ds a w) : SCD P ρ n ds (.exit id) N X T Z σ w := fun a ha => wpIn_exit (by
  show match X.lookup id with | some k => onD k (wd ds a) w | none => False
  rw [hk]
  show k ds (wd [] (wd ds a)) w
  rw [ha.strip]; exact h a ha)
theorem scd_block {id : Nat} {c : Code} (h : SCD P ρ n ds c N ((id, N) :: X) T Z σ w) : SCD P ρ n ds (.block id c) N X T Z σ w := fun a ha => by
  refine wpIn_block (wpIn_mono (h a ha) (fun e a w q => ?_))
  cases e with
  | exit id' =>
    simp only [Exit.inBlock]
    by_cases he : id' = id
    · subst he
      rw [if_pos rfl]
      simpa [QofD, List.lookup] using q
    · rw [if_neg he]
      simp only [QofD] at q ⊢
      rw [List.lookup_cons] at q
      have : (id' == id) = false := by simpa using he
      rw [this] at q
      exact q
  | _ => exact q
theorem scd_cond {x : Operand} {b : Bool} {p q : Code} (hx : Ev n σ True x (.bool b)) (h1 : b = true → SCD P ρ n ds p N X T Z σ w) (h2 : b = false → SCD P ρ n ds q N X T Z σ w) : SCD P ρ n ds (.cond x p q) N X T Z σ w := fun a ha =>
  wpIn_cond_split (show (wd ds a).eval x = .bool b from hx a ha trivial) (fun h => h1 h a ha) (fun h => h2 h a ha)
/-- A region in the order of the text. -/
theorem scd_text {id : Nat} {l : List Oper} (cl : List Nat) (h : SR P (fun ch a w => Z ch ds a w) l cl [] w n (N ds) 0 l σ w) : SCD P ρ n ds (.region id l.toArray false) N X T Z σ w := fun a ha => by
  have h1 := h (fun j o ho => by simpa using ho) a ha
  have e : lvOf [] = fun _ => true := by funext i; simp [lvOf]
  rw [e] at h1
  have h2 := RS.wd (Z := Z) (N := N) ds _ a w ha.2.1 h1
  rw [show List.range' 0 l.length = List.range l.toArray.size by rw [List.range_eq_range']; simp] at h2
  exact wpIn_text (Z := fun ch => onD (Z ch)) (fun ch a w h => h) h2
/-- A region that draws its order, no panics. -/
theorem scd_draw {id : Nat} {l : List Oper} (cl : List Nat) (lv : List Bool) (ms : List Nat) (hm : P.follows .mixedOrders = true) (hok : okB l cl lv ms = true)
    (h : SR P NoP l cl lv w.drew n (N ds) 0 l σ w.drew) : SCD P ρ n ds (.region id l.toArray true) N X T Z σ w := fun a ha => by
  have h1 := h (fun j o ho => by simpa using ho) a ha
  have h2 := RS.wd (Z := fun _ _ _ _ => False) (N := N) ds _ a w.drew ha.2.1 h1
  rw [show List.range' 0 l.length = List.range l.toArray.size by rw [List.range_eq_range']; simp] at h2
  exact wpIn_draw (Z := fun ch => onD (fun _ _ _ => False)) (fun _ _ _ h => h) (okay_of hok) hm h2
/-- A loop: what holds at its head is a relation I of a state α, whose slots are σf, whose deferred calls are df. -/
theorem scd_loopD {c : Code} {α : Type} (I : α → World → Prop) (σf : α → List Ent) (df : α → List Deferred) (μ : α → Nat) (x0 : α) (h0 : I x0 w) (hd : df x0 = ds) (hs : Sub (σf x0) σ)
    (round : ∀ x w, I x w → SCD P ρ n (df x) c (fun ds' a' w' => ∃ y, df y = ds' ∧ Kn n (σf y) a' ∧ I y w' ∧ μ y < μ x) X T Z (σf x) w) : SCD P ρ n ds (.loop c) N X T Z σ w := fun a ha => by
  intro b k cs hro hb hr
  have key : ∀ m x a w, μ x = m → Kn n (σf x) a → I x w →
      ∃ e a' w', QofD N X T Z e a' w' ∧ ArrivesIn (Machine.fenced P (WF ρ)) P (lone (b.atR (wd (df x) a) (.code c :: .inLoop c :: k)) cs w) b k cs e a' w' := by
    intro m
    induction m using Nat.strongRecOn with
    | _ m ih =>
      intro x a w hm hk hI
      obtain ⟨e, a₁, w₁, hq, harr⟩ := round x w hI a hk b (.inLoop c :: k) cs hro hb hr
      cases e with
      | normal =>
        obtain ⟨y, hd1, hk1, hI1, hlt⟩ := hq
        obtain ⟨e₂, a₂, w₂, hq₂, harr₂⟩ := ih (μ y) (hm ▸ hlt) y _ w₁ rfl hk1 hI1
        rw [hd1, wd_self] at harr₂
        exact ⟨e₂, a₂, w₂, hq₂, .of_steps (StepsIn.trans harr (.one (fenced_calm hb hr rfl) stepR_inLoop)) harr₂⟩
      | exit id => exact ⟨.exit id, a₁, w₁, hq, .pass (x := .inLoop c) rfl (fun _ _ => .inl (by simp)) harr⟩
      | goto l => exact hq.elim
      | ret => exact ⟨.ret, a₁, w₁, hq, .pass (x := .inLoop c) rfl (fun _ _ => .inl (by simp)) harr⟩
      | panic ch => exact ⟨.panic ch, a₁, w₁, hq, .pass (x := .inLoop c) rfl (fun _ _ => .inl (by simp)) harr⟩
      | outgrown => exact hq.elim
  obtain ⟨e, a', w', hq, harr⟩ := key _ x0 a w rfl (ha.sub hs) h0
  rw [hd] at harr
  exact ⟨e, a', w', hq, .of_steps (.one (fenced_calm hb hr rfl) stepR_loop) harr⟩
theorem scd_loop2 {c : Code} {α : Type} (I : α → World → Prop) (σc : List Ent) (σf : α → List Ent) (μ : α → Nat) (x0 : α) (h0 : I x0 w) (hs : Sub (σf x0 ++ σc) σ)
    (round : ∀ x w, I x w → SCD P ρ n ds c (fun ds' a' w' => ds' = ds ∧ ∃ y, Kn n (σf y ++ σc) a' ∧ I y w' ∧ μ y < μ x) X T Z (σf x ++ σc) w) : SCD P ρ n ds (.loop c) N X T Z σ w := by
  refine scd_loopD I (fun x => σf x ++ σc) (fun _ => ds) μ x0 h0 rfl hs fun x w h => fun a ha => wpIn_mono (round x w h a ha) (fun e a w q => ?_)
  cases e with
  | normal => obtain ⟨q1, y, q2⟩ := q; exact ⟨y, q1.symm, q2⟩
  | _ => exact q
end
/-! calls that may panic; rounds -/
def RP (R : Value → World → Prop) (Rp : List PanicEntry → World → Prop) (e : Ending) (w : World) : Prop := (∃ v, e = .returned v ∧ R v w) ∨ (∃ ch, e = .panicked ch ∧ Rp ch w)
/-- A contract of a function that may panic. -/
def RetP (P : Program) (f : FuncId) (args : Array Value) (w : World) (R : Value → World → Prop) (Rp : List PanicEntry → World → Prop) : Prop := Calls P f args w (RP R Rp)
theorem RetP.mono {P : Program} {f : FuncId} {args : Array Value} {w : World} {R R' : Value → World → Prop} {Rp Rp' : List PanicEntry → World → Prop} (h : RetP P f args w R Rp) (hr : ∀ v w', R v w' → R' v w') (hp : ∀ ch w', Rp ch w' → Rp' ch w') : RetP P f args w R' Rp' :=
  Calls.mono h fun _ _ h => h.imp (fun ⟨v, e, k⟩ => ⟨v, e, hr v _ k⟩) (fun ⟨ch, e, k⟩ => ⟨ch, e, hp ch _ k⟩)
theorem RetP.ret {P : Program} {f : FuncId} {args : Array Value} {w : World} {R : Value → World → Prop} {Rp : List PanicEntry → World → Prop} (h : RetP P f args w R Rp) (hp : ∀ ch w', ¬ Rp ch w') : Ret P f args w R :=
  Calls.mono h fun _ _ h => h.elim id fun ⟨_, _, k⟩ => absurd k (hp _ _)
/-- A call of a loop's yield. -/
def Yld (P : Program) (l : Nat) (args : Array Value) (w : World) (R : Value → World → Prop) : Prop :=
  ∃ fn tmps asg body, (Instr.yield l args).run P w = .ok (.round l fn tmps asg body) w ∧ RoundIn Fence.wide 0 P l fn tmps asg body w fun e w' => ∃ v, e = .returned v ∧ R v w'
theorem Yld.mono {P : Program} {l : Nat} {args : Array Value} {w : World} {R R' : Value → World → Prop} (h : Yld P l args w R) (hr : ∀ v w', R v w' → R' v w') : Yld P l args w R' := by
  obtain ⟨fn, tmps, asg, body, h1, h2⟩ := h
  exact ⟨fn, tmps, asg, body, h1, RoundIn.mono h2 fun _ _ ⟨v, e, k⟩ => ⟨v, e, hr v _ k⟩⟩
@[reducible] def yldV (l : Nat) : Value := .func (.yield l) #[] #[]
section
variable {P : Program} {Z : List PanicEntry → Act → World → Prop} {ops : List Oper} {cl : List Nat} {lv : List Bool} {W0 : World} {n : Nat} {K : Act → World → Prop} {k : Nat} {rest : List Oper} {σ : List Ent} {w : World} {d : Nat} {op : Op} {ty : TypeId} {pos : String} {after : Array Edge} {v : Value}
theorem sr_yield {x : Operand} {l : Nat} {xs : List Operand} {vs : List Value} {ats : Array TypeId} {R : Value → World → Prop} (hb : (!Nat.beq (clOf cl k) 0 && !Nat.beq (clOf cl k) 3 && Nat.blt d n) = true) (hx : Ev n σ True x (yldV l)) (ha : EvArgs n σ True xs vs) (hY : Yld P l vs.toArray w R)
    (h : ∀ v w', R v w' → (clOf cl k = 1 → G w w') ∧ SR P Z ops cl lv W0 n K (k + 1) rest ((d, True, v) :: σ) w') :
    SR P Z ops cl lv W0 n K k (⟨some d, .call { callee := .value x, args := xs.toArray, argTypes := ats }, ty, pos, after, none⟩ :: rest) σ w := fun hl a hk => by
  obtain ⟨h0, h1⟩ := shift_ops hl
  simp only [Bool.and_eq_true, Bool.not_eq_true'] at hb
  rw [List.length_cons, List.range'_succ]
  refine ⟨_, h0, ?_⟩
  rw [if_neg (fun he => by rcases he with he | he <;> rw [he] at hb <;> simp at hb), if_pos want_none]
  obtain ⟨fn, tmps, asg, body, hy, hR⟩ := hY
  refine .inr (.inr (.inr ⟨l, fn, tmps, asg, body, ?_, RoundIn.mono hR fun e w' ⟨v, he, hv⟩ => ?_⟩))
  · have h2 : xs.toArray.map a.eval = vs.toArray := by rw [List.map_toArray, ha a hk trivial]
    simp only [execOp, resolve, hx a hk trivial, h2, Deferred.ofValue, Sem.run_bind, Sem.run_pure, Result.andThen_ok, invoke]
    simpa using hy
  · obtain ⟨q1, q2⟩ := h v w' hv
    exact ⟨v, he, fun hh => q1 (by simpa using hh), q2 h1 _ (hk.put hb.2 (fun _ => rfl) (fun hn => absurd trivial hn))⟩
end
end Go.Rk
namespace Go.Rk
open Go Go.RowKit
set_option linter.unusedVariables false
/-! ends -/
def TD (P : Program) (fn : Func) (R : Value → World → Prop) (Rp : List PanicEntry → World → Prop) : DPost := fun ds a w => LeavesInM Fence.wide 0 P fn a.tmps (RP R Rp) ds .returning w
def ZD (P : Program) (fn : Func) (R : Value → World → Prop) (Rp : List PanicEntry → World → Prop) (ch : List PanicEntry) : DPost := fun ds a w => LeavesInM Fence.wide 0 P fn a.tmps (RP R Rp) ds (.panicking ch) w
theorem retP_of_scd {P : Program} {f : FuncId} {fn : Func} {c : Code} {args : List Value} {w : World} {R : Value → World → Prop} {Rp : List PanicEntry → World → Prop} {m : Nat} (hf : P.funcs[f]? = some fn) (hb : fn.body = some c) (hm : args.length + (fn.ntmps - args.length) = m)
    (σ0 : List Ent) (hs : Sub σ0 (argsK 0 args)) (hh : SCD P none m [] c (TD P fn R Rp) [] (TD P fn R Rp) (ZD P fn R Rp) σ0 w) : RetP P f args.toArray w R Rp := by
  have h0 := hh { tmps := args.toArray ++ Array.replicate (fn.ntmps - args.toArray.size) undef, defers := [] } (Kn.sub (σ := argsK 0 args) ?_ hs)
  refine callsIn_wide.1 (callsIn_of_wp_marks (F := Fence.wide) (n := 0) hf hb trivial (wpIn_mono (F := Fence.wide) h0 (fun e a w q => ?_)))
  rotate_left
  · refine ⟨by simp [← hm], rfl, fun t c' v hl => ?_⟩
    obtain ⟨rfl, _, h3⟩ := argsK_spec args 0 t c' v hl
    refine ⟨fun _ => ?_, fun hn => absurd trivial hn⟩
    rw [Nat.sub_zero] at h3
    have hlt : t < args.length := (List.getElem?_eq_some_iff.1 h3).1
    simp [Array.getElem?_append, hlt, h3]
    simpa [hlt] using h3
  cases e with
    | normal => exact q
    | ret => exact q
    | exit id => exact q.elim
    | goto l => exact q.elim
    | panic ch => exact q
    | outgrown => exact q.elim
theorem ret_of_scd {P : Program} {f : FuncId} {fn : Func} {c : Code} {args : List Value} {w : World} {R : Value → World → Prop} {m : Nat} (hf : P.funcs[f]? = some fn) (hb : fn.body = some c) (hm : args.length + (fn.ntmps - args.length) = m)
    (σ0 : List Ent) (hs : Sub σ0 (argsK 0 args)) (hh : SCD P none m [] c (TD P fn R fun _ _ => False) [] (TD P fn R fun _ _ => False) (ZD P fn R fun _ _ => False) σ0 w) : Ret P f args.toArray w R :=
  (retP_of_scd hf hb hm σ0 hs hh).ret fun _ _ h => h
section
variable {P : Program} {n : Nat} {fn : Func} {R : Value → World → Prop} {Rp : List PanicEntry → World → Prop} {σ : List Ent} {w : World} {ds : List Deferred}
/-- No deferred call is left. -/
theorem td_ret (h : ∀ a, Kn n σ a → bodyPost P fn (fun e w' => ∃ v, e = .returned v ∧ R v w') .ret a w) : ∀ a, Kn n σ a → TD P fn R Rp [] a w := fun a ha => by
  have h1 := h a ha
  unfold bodyPost at h1
  obtain ⟨hd, v, hr, v', e, hv⟩ := h1
  injection e with e; subst e
  exact ⟨_, hr, .inl ⟨_, rfl, hv⟩⟩
theorem td_end0 (hr : fn.results = #[]) (h : R (.tuple #[]) w) : ∀ a, Kn n σ a → TD P fn R Rp [] a w := fun a ha => ⟨_, results_none hr _ _ _, .inl ⟨_, rfl, h⟩⟩
@[reducible] def markD (db : Nat) : Deferred := { target := .collected db, args := #[] }
theorem td_mark {db : Nat} (hk : w.heap[db]? = some (.deferred (some []))) (h : ∀ a, Kn n σ a → TD P fn R Rp ds a (w.putObj db (.deferred none))) : ∀ a, Kn n σ a → TD P fn R Rp (markD db :: ds) a w := fun a ha =>
  ⟨by simp, .inl ⟨_, _, rfl, run_takeDeferred hk, h a ha⟩⟩
/-- A contract of a function's body, for a call or a deferred call. -/
def RetB (P : Program) (f : FuncId) (args : Array Value) (w : World) (R : Value → World → Prop) : Prop :=
  ∃ fn c, P.funcs[f]? = some fn ∧ fn.body = some c ∧ c.wp P (bodyPost P fn (fun e w' => ∃ v, e = .returned v ∧ R v w')) { tmps := args ++ Array.replicate (fn.ntmps - args.size) undef, defers := [] } w
theorem RetB.ret {P : Program} {f : FuncId} {args : Array Value} {w : World} {R : Value → World → Prop} (h : RetB P f args w R) : Ret P f args w R := by
  obtain ⟨fn, c, hf, hb, h⟩ := h
  exact calls_of_wp hf hb h
theorem RetB.mono {P : Program} {f : FuncId} {args : Array Value} {w : World} {R R' : Value → World → Prop} (h : RetB P f args w R) (hr : ∀ v w', R v w' → R' v w') : RetB P f args w R' := by
  obtain ⟨fn, c, hf, hb, h⟩ := h
  refine ⟨fn, c, hf, hb, wp_mono h fun e a w q => ?_⟩
  unfold bodyPost at q ⊢
  split at q <;> first
    | (obtain ⟨q0, v, q1, v', q3, q4⟩ := q; exact ⟨q0, v, q1, v', q3, hr _ _ q4⟩)
    | (obtain ⟨q1, v', q3, q4⟩ := q; exact ⟨q1, v', q3, hr _ _ q4⟩)
    | (obtain ⟨v', q3, q4⟩ := q; exact ⟨v', q3, hr _ _ q4⟩)
    | exact q.elim
theorem retB_of_sc {f : FuncId} {fn : Func} {c : Code} {args : List Value} {R : Value → World → Prop} {m : Nat} (hf : P.funcs[f]? = some fn) (hb : fn.body = some c) (hm : args.length + (fn.ntmps - args.length) = m)
    (σ0 : List Ent) (hs : Sub σ0 (argsK 0 args))
    (hh : SC P m c (fun a w => bodyPost P fn (fun e w' => ∃ v, e = .returned v ∧ R v w') .normal a w) [] (fun a w => bodyPost P fn (fun e w' => ∃ v, e = .returned v ∧ R v w') .ret a w)
      σ0 w) : RetB P f args.toArray w R := by
  refine ⟨fn, c, hf, hb, (Code.wp_mono (fun e a w q => ?_) (hh _ (Kn.sub (σ := argsK 0 args) ?_ hs)))⟩
  · cases e with
    | normal => exact q
    | ret => exact q
    | _ => exact q.elim
  · refine ⟨by simp [← hm], rfl, fun t c' v hl => ?_⟩
    obtain ⟨rfl, _, h3⟩ := argsK_spec args 0 t c' v hl
    refine ⟨fun _ => ?_, fun hn => absurd trivial hn⟩
    rw [Nat.sub_zero] at h3
    have hlt : t < args.length := (List.getElem?_eq_some_iff.1 h3).1
    simp [Array.getElem?_append, hlt, h3]
    simpa [hlt] using h3
theorem retB_callsD {f : FuncId} {args : Array Value} {u : FrameMode} {w : World} {R : Value → World → Prop} (h : RetB P f args w R) : CallsDIn Fence.wide (0 - 1) P f args u w fun e u' w' => u' = u ∧ ∃ v, e = .returned v ∧ R v w' := by
  obtain ⟨fn, c, hf, hb, h⟩ := h
  exact callsDIn_of_wp hf hb trivial (wpIn_wide.2 h)
@[reducible] def fnD (f : Nat) (cs args : Array Value) : Deferred := { target := .fn (.func f) cs, args := args }
theorem td_call {f : Nat} {cs args : Array Value} {R' : Value → World → Prop} (hgo : goFn P f = true) (hC : RetB P f (args ++ cs) w R') (h : ∀ v w', R' v w' → ∀ a, Kn n σ a → TD P fn R Rp ds a w') : ∀ a, Kn n σ a → TD P fn R Rp (fnD f cs args :: ds) a w := fun a ha => by
  refine ⟨by simp, .inr ⟨(fun h => by cases h), .func f, cs, f, args ++ cs, rfl, run_goFn hgo _ _, fun _ _ => trivial, ?_⟩⟩
  have h1 := retB_callsD (u := .returning) hC
  refine ⟨h1.1, fun c cs' hu hr => ?_⟩
  obtain ⟨e, u', w', fr, ⟨rfl, v, rfl, hv⟩, h2⟩ := h1.2 c cs' hu hr
  refine ⟨.returned v, _, w', fr, ?_, h2⟩
  show LeavesInM _ _ _ _ _ _ _ (settle .returning) _
  exact h v w' hv a ha
end
theorem RS.mono {P : Program} {Z : List PanicEntry → Act → World → Prop} {ops : Array Oper} {cl : Nat → Nat} {lv : Nat → Bool} {W0 : World} {K K' : Act → World → Prop} (hK : ∀ a w, K a w → K' a w) : ∀ (L : List Nat) (a : Act) (w : World), RS P Z ops cl lv W0 K L a w → RS P Z ops cl lv W0 K' L a w
  | [], a, w, h => hK _ _ h
  | i :: rest, a, w, ⟨o, ho, hb⟩ => by
    refine ⟨o, ho, ?_⟩
    by_cases hc : cl i = 0 ∨ cl i = 3
    · rw [if_pos hc] at hb ⊢
      obtain ⟨v, h1, h2, h3⟩ := hb
      exact ⟨v, h1, h2, RS.mono hK rest _ _ h3⟩
    · rw [if_neg hc] at hb ⊢
      by_cases hw : Region.wanted o (yielded ops a.tmps) = true
      · rw [if_pos hw] at hb ⊢
        exact hb.turn rfl (fun _ _ h => h) fun v w' _ hk => RS.mono hK rest _ _ hk
      · rw [if_neg hw] at hb ⊢
        exact RS.mono hK rest _ _ hb
/-! the operation that defers a call, last in its region -/
def RunD (P : Program) (n : Nat) (σ : List Ent) (w : World) (op : Op) (ty : TypeId) (d : Deferred) : Prop :=
  ∀ (dst : Option Tmp) (pos : String) (after : Array Edge) (g : Option (Nat × Bool)) (a : Act), Kn n σ a → (execOp a.eval ⟨dst, op, ty, pos, after, g⟩).run P w = .ok (.defer d) w
theorem rdd_call {P : Program} {n : Nat} {σ : List Ent} {w : World} {x : Operand} {f : Nat} {cs : Array Value} {xs : List Operand} {vs : List Value} {ats : Array TypeId} {ty : TypeId} (h : Ev n σ True x (.func (.func f) #[] cs)) (hx : EvArgs n σ True xs vs) :
    RunD P n σ w (.defer { callee := .value x, args := xs.toArray, argTypes := ats }) ty (fnD f cs vs.toArray) := fun dst pos after g a hk => by
  have h2 : xs.toArray.map a.eval = vs.toArray := by rw [List.map_toArray, hx a hk trivial]
  simp [execOp, resolve, h a hk trivial, h2, Deferred.ofValue, fnD]
def KDef (P : Program) (o : Oper) (N : DPost) (ds : List Deferred) (a : Act) (w : World) : Prop := ∃ d, (execOp a.eval o).run P w = .ok (.defer d) w ∧ N (d :: ds) (a.put o.dst undef) w
theorem kdef_mk {P : Program} {n : Nat} {σ : List Ent} {w : World} {op : Op} {ty : TypeId} {pos : String} {after : Array Edge} {d : Deferred} {N : DPost} {ds : List Deferred} (hr : RunD P n σ w op ty d) (h : ∀ a, Kn n σ a → N (d :: ds) a w) : ∀ a, Kn n σ a → KDef P ⟨none, op, ty, pos, after, none⟩ N ds a w := fun a ha =>
  ⟨d, hr _ _ _ _ a ha, h a ha⟩
theorem opsIn_app {P : Program} {F : Fence} {n : Nat} {ops : Array Oper} {Q : Exit → Act → World → Prop} {L2 : List Nat} : ∀ (L1 : List Nat) (a : Act) (w : World), wpOpsIn F n P ops (Exit.then (fun a w => wpOpsIn F n P ops Q L2 a w) Q) L1 a w → wpOpsIn F n P ops Q (L1 ++ L2) a w
  | [], a, w, h => h
  | i :: L1, a, w, h => by
    have e := wpOpsIn_cons (F := F) (n := n) (P := P) (ops := ops) (Q := Q) i (L1 ++ L2) a w
    rw [List.cons_append, e]
    have e1 := wpOpsIn_cons (F := F) (n := n) (P := P) (ops := ops) (Q := Exit.then (fun a w => wpOpsIn F n P ops Q L2 a w) Q) i L1 a w
    rw [e1] at h
    unfold wpOpIn at h ⊢
    cases ho : ops[i]? with
    | none => simp only [ho] at h ⊢; exact opsIn_app L1 _ _ h
    | some o =>
      simp only [ho] at h ⊢
      by_cases hw : Region.wanted o (yielded ops a.tmps) = true
      · rw [if_pos hw] at h ⊢
        refine ⟨h.1, ?_⟩
        have h2 := h.2
        generalize (o.semAt F.round a.eval).run P w = r at *
        cases r with
        | ok x w' =>
          cases x <;> simp only [Oper.uponIn, LetsOut] at h2 ⊢ <;>
            first
              | exact opsIn_app L1 _ _ h2
              | exact ⟨h2.1, CallsIn.mono h2.2 (fun e w'' he => by cases e <;> first | exact opsIn_app L1 _ _ he | exact he)⟩
              | exact ⟨h2.1, RowsIn.mono h2.2 (fun _ _ he => opsIn_app L1 _ _ he)⟩
              | exact ⟨h2.1, RoundIn.mono h2.2 (fun e w'' he => by cases e <;> first | exact opsIn_app L1 _ _ he | exact he)⟩
              | exact h2
        | halt x w' => cases x <;> simp only [Oper.uponIn] at h2 ⊢ <;> exact h2
      · rw [if_neg hw] at h ⊢
        exact ⟨h.1, opsIn_app L1 _ _ h.2⟩
section
variable {P : Program} {n : Nat} {ds : List Deferred} {N T : DPost} {X : List (Nat × DPost)} {Z : List PanicEntry → DPost} {σ : List Ent} {w : World}
theorem scd_text_defer {id k : Nat} {l : List Oper} {o : Oper} (cl : List Nat) (hk : Nat.beq l.length (k + 1) = true) (ho : l[k]? = some o) (hg : o.guard = none)
    (h : SR P (fun ch a w => Z ch ds a w) l cl [] w n (KDef P o N ds) 0 (l.take k) σ w) : SCD P none n ds (.region id l.toArray false) N X T Z σ w := fun a ha => by
  have hk := Nat.eq_of_beq_eq_true hk
  have h1 := h (fun j o' ho' => by
    rw [List.getElem?_take] at ho'
    split at ho'
    · simpa using ho'
    · cases ho') a ha
  have e : lvOf [] = fun _ => true := by funext i; simp [lvOf]
  rw [e] at h1
  have h2 := RS.wd (Z := Z) (N := fun ds a w => KDef P o N ds a w) ds _ a w ha.2.1 h1
  refine wpIn_region ?_
  have hL : List.range l.toArray.size = List.range' 0 (l.take k).length ++ [k] := by
    rw [List.length_take, Nat.min_eq_left (by omega), List.size_toArray, hk, List.range_succ, List.range_eq_range']
  rw [hL]
  refine opsIn_app _ _ _ (ops_of_RS (ρ := none) (cl := clOf cl) (W0 := w) (Z := fun ch => onD (Z ch)) (fun ch a w h => h) _ _ _ ?_)
  refine RS.mono (fun a' w' hq => ?_) _ _ _ h2
  obtain ⟨d, hr, hn⟩ := hq
  have hw : Region.wanted o (yielded l.toArray a'.tmps) = true := by unfold Region.wanted; rw [hg]
  show wpOpsIn (WF none) 0 P l.toArray (QofD N X T Z) [k] a' w'
  unfold wpOpsIn
  simp only [List.getElem?_toArray, ho]
  rw [if_pos hw]
  refine ⟨fun _ _ => trivial, ?_⟩
  have hr : (execOp a'.eval o).run P w' = .ok (.defer d) w' := hr
  rw [show Oper.semAt (WF none).round a'.eval o = execOp a'.eval o from rfl, hr]
  have e1 : (({ a' with defers := d :: a'.defers } : Act).put o.dst undef).defers = d :: a'.defers := put_defers _ _ _
  have e2 : wd [] (({ a' with defers := d :: a'.defers } : Act).put o.dst undef) = (wd [] a').put o.dst undef := by
    cases o.dst <;> rfl
  show N (({ a' with defers := d :: a'.defers } : Act).put o.dst undef).defers (wd [] (({ a' with defers := d :: a'.defers } : Act).put o.dst undef)) w'
  rw [e1, e2]; exact hn
end
end Go.Rk
