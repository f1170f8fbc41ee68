/- strings.Builder's writing methods, as far as they are used here. Conditions: none. -/
import Derived.Test.YtpbnkinfkkokfaaDoorScanM
import Derived.Test.YtpbnkinfkkokfaaDoorStr
import Derived.Shelf.Strings.Builder1
namespace Go.Rk
open Go Go.RowKit
/-- The builder in block b holds bytes. -/
structure Bld (base b : Nat) (l : List UInt8) (p a : Option Addr) (q : Nat) (w : World) : Prop where
  B : Blk w b ty_strings_Builder [.pointer p, .slice a l.length q]
  hb : base ≤ b
  row : w.ownsRow base ty_uint8 1 (.slice a l.length q) l.length (Lib.byteCells l)
  n1 : (Value.slice a l.length q).ownBlock ≠ some b
  hp : p = none ∨ p = some ⟨b, 0, none⟩
theorem Bld.grow {base b : Nat} {l : List UInt8} {p a : Option Addr} {q : Nat} {w w' : World} (h : Bld base b l p a q w) (g : G w w') : Bld base b l p a q w' := { h with B := h.B.grow g, row := own_grow h.row g }
theorem unsafe_to : unsafeTo PP ty_p_strings_Builder ty_unsafe_Pointer = true := by kernel_rfl
theorem unsafe_from : unsafeFrom PP ty_unsafe_Pointer ty_p_strings_Builder ty_strings_Builder 2 0 = true := by kernel_rfl
theorem noEsc : isNoEscape PP 44 := noEscape_of (fn := Go.Proofs.Tryd.f44) Go.Proofs.Tryd.func44 (by kernel_rfl) (by kernel_rfl) (by kernel_rfl) (by kernel_rfl)
theorem bld_ptr : ∀ e, PP.underlying ty_p_strings_Builder = some (.pointer e) → (PP.info? e).isSome = true := fun e he => by
  have h1 : PP.underlying ty_p_strings_Builder = some (.pointer ty_strings_Builder) := by kernel_rfl
  have h2 : (PP.info? ty_strings_Builder).isSome = true := by kernel_rfl
  rw [h1] at he; injection he with he; injection he with he; subst he; exact h2
/-- What a builder's method leaves alone. -/
def Keep (b : Nat) (v : Value) (w w' : World) : Prop := ∀ k e l, Blk w k e l → k ≠ b → v.ownBlock ≠ some k → Blk w' k e l
theorem Keep.refl (b : Nat) (v : Value) (w : World) : Keep b v w w := fun _ _ _ h _ _ => h
theorem Keep.grow {b : Nat} {v : Value} {w w' w1 : World} (h : Keep b v w w') (g : G w' w1) : Keep b v w w1 := fun k e l hB h1 h2 => (h k e l hB h1 h2).grow g
theorem Keep.only {b : Nat} {v : Value} {w w' w1 : World} (h : Keep b v w w') (hg : w'.grownBy w1 (some b)) : Keep b v w w1 := fun k e l hB h1 h2 => (h k e l hB h1 h2).keep hg (by intro e; injection e with e; exact h1 e)
theorem Keep.own {b : Nat} {v : Value} {w w' w1 : World} (h : Keep b v w w') (hg : w'.grownBy w1 v.ownBlock) : Keep b v w w1 := fun k e l hB h1 h2 => (h k e l hB h1 h2).keep hg (Ne.symm h2)
theorem Keep.trans {b : Nat} {v : Value} {w w' w1 : World} (h : Keep b v w w') (h' : Keep b v w' w1) : Keep b v w w1 := fun k e l hB h1 h2 => h' k e l (h k e l hB h1 h2) h1 h2
theorem copycheck_ok (base b : Nat) (l : List UInt8) (p a : Option Addr) (q : Nat) (w : World) (h : Bld base b l p a q w) : Ret PP fn_strings_Builder_copyCheck #[.pointer (some ⟨b, 0, none⟩)] w fun v w' => v = .tuple #[] ∧ Bld base b l (some ⟨b, 0, none⟩) a q w' ∧ Below base w w' ∧ Keep b (.slice a l.length q) w w' := by
  have g := G.refl w
  refine ret_of_sc (m := 20) func_strings_Builder_copyCheck rfl rfl [(0, True, _)] (sub_cons rfl (sub_nil _)) ?_
  refine sc_seq fun K1 hK1 => ?_
  refine sc_text [3, 3, 3, 0, 3] ?_
  refine sr_pu rfl (fun _ => rd_move (ev_t rfl)) ?_
  refine sr_pu rfl (fun _ => rd_nil (ev_t rfl)) ?_
  refine sr_pu rfl (fun _ => rd_field fo_strings_Builder_0 (ev_t rfl)) ?_
  refine sr_rd rfl (rd_load one_p_strings_Builder (ev_t rfl) (fun _ => by first | assumption | exact (h.grow g).B.at_ rfl)) ?_
  refine sr_pu rfl (fun _ => rd_peq pt_p_strings_Builder (ev_t rfl)) ?_
  refine sr_sub [(0, _, _), (6, _, _)] (sub_cons rfl (sub_cons rfl (sub_nil _))) ?_
  refine sr_nil (hK1 _ _ ?_)
  refine sc_cond (ev_t rfl) (fun h1 => ?_) (fun h1 => ?_)
  · have hp : p = none := by cases p with
      | none => rfl
      | some x => cases h1
    refine sc_text [3, 3, 0, 3, 0, 3, 3, 2] ?_
    refine sr_pu rfl (fun _ => rd_move (ev_t rfl)) ?_
    refine sr_pu rfl (fun _ => rd_move (ev_t rfl)) ?_
    refine sr_rd rfl (rd_to_unsafe unsafe_to (ev_t rfl) (fun _ => (h.grow g).B) rfl) ?_
    refine sr_pu rfl (fun _ => rd_noescape noEsc (ev_t rfl)) ?_
    refine sr_rd rfl (rd_from_unsafe unsafe_from (ev_t rfl) (fun _ => (h.grow g).B)) ?_
    refine sr_pu rfl (fun _ => rd_nil (ev_t rfl)) ?_
    refine sr_pu rfl (fun _ => rd_field fo_strings_Builder_0 (ev_t rfl)) ?_
    refine sr_store rfl sz_p_strings_Builder (ev_t rfl) (ev_t rfl) rfl rfl (h.grow g).B rfl rfl ?_
    intro w13 hg13 hz13 hB
    have hb' := below_go (Below.refl _ _) g hg13 (by have := h.hb; have := h.B.lt; omega) h.hb
    refine sr_sub [] (sub_nil _) ?_
    refine sr_nil (t_end0 rfl ?_)
    exact ⟨rfl, ⟨hB, h.hb, own_keep (own_grow h.row g) hg13 (.inr h.n1), h.n1, .inr rfl⟩, hb', ((Keep.refl _ _ _).grow g).only hg13⟩
  · obtain rfl : p = some ⟨b, 0, none⟩ := by
      rcases h.hp with e | e
      · rw [e] at h1; cases h1
      · exact e
    refine sc_seq fun K2 hK2 => ?_
    refine sc_text [3, 3, 3, 0, 3, 0] ?_
    refine sr_pu rfl (fun _ => rd_move (ev_t rfl)) ?_
    refine sr_pu rfl (fun _ => rd_nil (ev_t rfl)) ?_
    refine sr_pu rfl (fun _ => rd_field fo_strings_Builder_0 (ev_t rfl)) ?_
    refine sr_rd rfl (rd_load one_p_strings_Builder (ev_t rfl) (fun _ => by first | assumption | exact (h.grow g).B.at_ rfl)) ?_
    refine sr_pu rfl (fun _ => rd_move (ev_t rfl)) ?_
    refine sr_rd rfl (rd_pne_same pt_p_strings_Builder bld_ptr (ev_t rfl) (ev_t rfl)) ?_
    refine sr_sub [(19, _, _)] (sub_cons rfl (sub_nil _)) ?_
    refine sr_nil (hK2 _ _ ?_)
    refine sc_false (ev_t rfl) ?_
    refine sc_skip (t_end0 rfl ?_)
    exact ⟨rfl, h.grow g, below_g g (by have := h.hb; have := h.B.lt; omega), (Keep.refl _ _ _).grow g⟩
theorem ne_own {w : World} {base b m c : Nat} {xs l : List Value} {a : Option Addr} {e t : TypeId} (ho : w.ownsRow base e 1 (.slice a m c) m xs) (hB : Blk w b t l) (ht : t ≠ e) : (Value.slice a m c).ownBlock ≠ some b := Lib.ownBlock_ne ho hB ht
theorem writebyte_ok (base b : Nat) (l : List UInt8) (p a : Option Addr) (q : Nat) (c : UInt8) (w : World) (h : Bld base b l p a q w) (hl : l.length < 100000000) : Ret PP fn_strings_Builder_WriteByte #[.pointer (some ⟨b, 0, none⟩), .int .u8 c.toNat] w fun v w' => v = .nilIface ∧ (∃ a' q', Bld base b (l ++ [c]) (some ⟨b, 0, none⟩) a' q' w') ∧ Below base w w' ∧ Keep b (.slice a l.length q) w w' := by
  have g := G.refl w
  refine ret_of_sc (m := 17) func_strings_Builder_WriteByte rfl rfl [(0, True, _), (1, True, _)] (sub_cons rfl (sub_cons rfl (sub_nil _))) ?_
  refine sc_seq fun K1 hK1 => ?_
  refine sc_text [3] ?_
  refine sr_pu rfl (fun _ => rd_assign ev_c) ?_
  refine sr_nil (hK1 _ _ ?_)
  refine sc_seq fun K2 hK2 => ?_
  refine sc_text [3, 2] ?_
  refine sr_pu rfl (fun _ => rd_move (ev_t rfl)) ?_
  refine sr_call rfl (rc_call go_strings_Builder_copyCheck ev_f (args_cons (ev_t rfl) (args_nil)) rfl) (copycheck_ok base b l p a q _ (h.grow g)) ?_
  rintro v6 w6 ⟨rfl, h, hb, hk⟩
  refine ⟨fun h => absurd h (by decide), ?_⟩
  have hb := (below_g g (by have := h.hb; have := hb.size; have := ‹Bld base b l p a q w›.B.lt; omega)).trans hb
  have hk := ((Keep.refl _ _ _).grow g).trans hk
  have g := G.refl w6
  refine sr_sub [(0, _, _), (1, _, _), (4, _, _)] (sub_cons rfl (sub_cons rfl (sub_cons rfl (sub_nil _)))) ?_
  refine sr_nil (hK2 _ _ ?_)
  refine sc_seq fun K3 hK3 => ?_
  refine sc_text [3, 3, 3, 3, 0, 3, 1, 2, 3, 3, 2] ?_
  refine sr_pu rfl (fun _ => rd_move (ev_t rfl)) ?_
  refine sr_pu rfl (fun _ => rd_move (ev_t rfl)) ?_
  refine sr_pu rfl (fun _ => rd_nil (ev_t rfl)) ?_
  refine sr_pu rfl (fun _ => rd_field fo_strings_Builder_1 (ev_t rfl)) ?_
  refine sr_rd rfl (rd_load one_sl_uint8 (ev_t rfl) (fun _ => by first | assumption | exact (h.grow g).B.at_ rfl)) ?_
  refine sr_pu rfl (fun _ => rd_move (ev_t rfl)) ?_
  refine sr_buildSlice [_] rfl el_sl_uint8 ze_uint8 (parts_cons (ev_t rfl) (parts_nil)) rfl rfl ?_
  intro b13 w13 N13
  have l13 := N13.ge g
  have g := g.trans (N13.g)
  have B13 := N13.blk
  have hbase : base ≤ w6.heap.size := by have := h.hb; have := h.B.lt; omega
  have hb := hb.trans (below_g g hbase)
  have h := h.grow g
  refine sr_append rfl el_sl_uint8 ze_uint8 rfl (by decide) (ev_t rfl) h.row (ev_t rfl) rfl N13.blk.row rfl (by simp only [maxLen]; omega) (by omega) (by have := g.size; omega) ?_
  intro a' c' w14 ht' hg14 hat
  have hB := h.B.keep hg14 (Ne.symm h.n1)
  refine sr_pu rfl (fun _ => rd_nil (ev_t rfl)) ?_
  refine sr_pu rfl (fun _ => rd_field fo_strings_Builder_1 (ev_t rfl)) ?_
  refine sr_store rfl sz_sl_uint8 (ev_t rfl) (ev_t rfl) rfl rfl hB rfl rfl ?_
  intro w16 hg16 hz16 hB
  have n1 := ne_own ht' (h.B.keep hg14 (Ne.symm h.n1)) (by decide)
  have hb := below_only (below_only hb hg14 (by have := g.size; omega) (fun k hk => (h.row.lt k hk).1)) hg16 (by have := g.size; have := hg14.size; omega) (fun k hk => by injection hk with hk; have := h.hb; omega)
  refine sr_sub [(4, _, _)] (sub_cons rfl (sub_nil _)) ?_
  refine sr_nil (hK3 _ _ ?_)
  refine sc_seq fun K4 hK4 => ?_
  refine sc_text [3] ?_
  refine sr_pu rfl (fun _ => rd_assign ev_c) ?_
  refine sr_nil (hK4 _ _ ?_)
  refine sc_ret (t_ret1 rfl rfl ?_)
  have hlen : (l ++ [c]).length = l.length + 1 := by simp
  refine ⟨rfl, ⟨a', c', ⟨by rw [hlen]; exact hB, h.hb, ?_, by rw [hlen]; exact n1, .inr rfl⟩⟩, hb, ((hk.grow g).own hg14).only hg16⟩
  rw [hlen, Lib.byteCells_append]
  exact own_keep ht' hg16 (.inr n1)
theorem writestring_ok (base b : Nat) (l : List UInt8) (p a : Option Addr) (q : Nat) (s : List UInt8) (w : World) (h : Bld base b l p a q w) (hl : l.length + s.length < 100000000) : Ret PP fn_strings_Builder_WriteString #[.pointer (some ⟨b, 0, none⟩), Str s] w fun v w' => (∃ x, v = x) ∧ (∃ a' q', Bld base b (l ++ s) (some ⟨b, 0, none⟩) a' q' w') ∧ Below base w w' ∧ Keep b (.slice a l.length q) w w' := by
  have g := G.refl w
  refine ret_of_sc (m := 19) func_strings_Builder_WriteString rfl rfl [(0, True, _), (1, True, _)] (sub_cons rfl (sub_cons rfl (sub_nil _))) ?_
  refine sc_seq fun K1 hK1 => ?_
  refine sc_text [3, 3] ?_
  refine sr_pu rfl (fun _ => rd_assign ev_c) ?_
  refine sr_pu rfl (fun _ => rd_assign ev_c) ?_
  refine sr_nil (hK1 _ _ ?_)
  refine sc_seq fun K2 hK2 => ?_
  refine sc_text [3, 2] ?_
  refine sr_pu rfl (fun _ => rd_move (ev_t rfl)) ?_
  refine sr_call rfl (rc_call go_strings_Builder_copyCheck ev_f (args_cons (ev_t rfl) (args_nil)) rfl) (copycheck_ok base b l p a q _ (h.grow g)) ?_
  rintro v7 w7 ⟨rfl, h, hb, hk⟩
  refine ⟨fun h => absurd h (by decide), ?_⟩
  have hb := (below_g g (by have := h.hb; have := hb.size; have := ‹Bld base b l p a q w›.B.lt; omega)).trans hb
  have hk := ((Keep.refl _ _ _).grow g).trans hk
  have g := G.refl w7
  refine sr_sub [(0, _, _), (1, _, _), (4, _, _), (5, _, _)] (sub_cons rfl (sub_cons rfl (sub_cons rfl (sub_cons rfl (sub_nil _))))) ?_
  refine sr_nil (hK2 _ _ ?_)
  refine sc_seq fun K3 hK3 => ?_
  refine sc_text [3, 3, 3, 3, 0, 3, 2, 3, 3, 2] ?_
  refine sr_pu rfl (fun _ => rd_move (ev_t rfl)) ?_
  refine sr_pu rfl (fun _ => rd_move (ev_t rfl)) ?_
  refine sr_pu rfl (fun _ => rd_nil (ev_t rfl)) ?_
  refine sr_pu rfl (fun _ => rd_field fo_strings_Builder_1 (ev_t rfl)) ?_
  refine sr_rd rfl (rd_load one_sl_uint8 (ev_t rfl) (fun _ => by first | assumption | exact (h.grow g).B.at_ rfl)) ?_
  refine sr_pu rfl (fun _ => rd_move (ev_t rfl)) ?_
  have hbase : base ≤ w7.heap.size := by have := h.hb; have := h.B.lt; omega
  have hb := hb.trans (below_g g hbase)
  have h := h.grow g
  refine sr_appends rfl el_sl_uint8 ze_uint8 str_string (ev_t rfl) h.row (ev_t rfl) (by omega) (by have := g.size; omega) ?_
  intro a' c' w14 ht' hg14
  have hB := h.B.keep hg14 (Ne.symm h.n1)
  refine sr_pu rfl (fun _ => rd_nil (ev_t rfl)) ?_
  refine sr_pu rfl (fun _ => rd_field fo_strings_Builder_1 (ev_t rfl)) ?_
  refine sr_store rfl sz_sl_uint8 (ev_t rfl) (ev_t rfl) rfl rfl hB rfl rfl ?_
  intro w16 hg16 hz16 hB
  have n1 := ne_own ht' (h.B.keep hg14 (Ne.symm h.n1)) (by decide)
  have hb := below_only (below_only hb hg14 (by have := g.size; omega) (fun k hk => (h.row.lt k hk).1)) hg16 (by have := g.size; have := hg14.size; omega) (fun k hk => by injection hk with hk; have := h.hb; omega)
  refine sr_sub [(1, _, _), (4, _, _), (5, _, _)] (sub_cons rfl (sub_cons rfl (sub_cons rfl (sub_nil _)))) ?_
  refine sr_nil (hK3 _ _ ?_)
  refine sc_seq fun K4 hK4 => ?_
  refine sc_text [3, 3, 3, 3] ?_
  refine sr_pu rfl (fun _ => rd_move (ev_t rfl)) ?_
  refine sr_pu rfl (fun _ => rd_slen str_string (ev_t rfl)) ?_
  refine sr_pu rfl (fun _ => rd_assign (ev_t rfl)) ?_
  refine sr_pu rfl (fun _ => rd_assign ev_c) ?_
  refine sr_sub [(4, _, _), (5, _, _)] (sub_cons rfl (sub_cons rfl (sub_nil _))) ?_
  refine sr_nil (hK4 _ _ ?_)
  refine sc_ret (t_rets (ts := [4, 5]) (vs := [_, _]) rfl rfl rfl ?_)
  have hlen : (l ++ s).length = l.length + s.length := by simp
  refine ⟨⟨_, rfl⟩, ⟨a', c', ⟨by rw [hlen]; exact hB, h.hb, ?_, by rw [hlen]; exact n1, .inr rfl⟩⟩, hb, ((hk.grow g).own hg14).only hg16⟩
  rw [hlen, Lib.byteCells_append]
  exact own_keep ht' hg16 (.inr n1)
/-- The texts of tokens, separated by blanks. -/
def joinF : List Tok → List UInt8
  | [] => []
  | t :: r => r.foldl (fun acc u => acc ++ 32 :: u.text) t.text
theorem joinF_snoc {l : List Tok} (h : l ≠ []) (t : Tok) : joinF (l ++ [t]) = joinF l ++ [32] ++ t.text := by
  cases l with
  | nil => exact absurd rfl h
  | cons a r => simp [joinF, List.foldl_append]
/-- A row of tokens that can be read. -/
def RowT (l : List Tok) (v : Value) (w : World) : Prop := ∃ x c, v = .slice x l.length c ∧ (0 < l.length → ∃ b o, x = some ⟨b, o, none⟩ ∧ RowAt w b o (toksCells l))
theorem RowT.grow {l : List Tok} {v : Value} {w w' : World} (h : RowT l v w) (g : G w w') : RowT l v w' := by
  obtain ⟨x, c, hv, h⟩ := h
  refine ⟨x, c, hv, fun hl => ?_⟩
  obtain ⟨b, o, hx, hr⟩ := h hl
  exact ⟨b, o, hx, hr.grow g⟩
theorem Toks.row {base : Nat} {l : List Tok} {v : Value} {w : World} (h : Toks base l v w) : RowT l v w := by
  obtain ⟨a, c, hv, _⟩ := own_sl h
  refine ⟨a, c, hv, fun hl => ?_⟩
  obtain ⟨b, c', hv', _, hr, _⟩ := own_pos h hl
  rw [hv] at hv'; injection hv' with e1 e2 e3
  exact ⟨b, 0, e1, hr⟩
def tok0 : Tok := ⟨0, [], 0⟩
theorem toksCells_at {l : List Tok} {i : Nat} (h : i < l.length) : ((toksCells l).drop (i * 3)).take 3 = tokCells (l.getD i tok0) := by
  induction l generalizing i with
  | nil => cases h
  | cons t l ih =>
    cases i with
    | zero => rfl
    | succ i =>
      have := ih (i := i) (by simpa using h)
      rw [show (i + 1) * 3 = i * 3 + 1 + 1 + 1 by omega, show toksCells (t :: l) = .int .i64 t.kind :: Str t.text :: .int .i64 t.pos :: toksCells l from rfl, List.drop_succ_cons, List.drop_succ_cons, List.drop_succ_cons, this]
      simp
theorem row_tok {w : World} {b o i : Nat} {l : List Tok} (h : RowAt w b o (toksCells l)) (hi : i < l.length) : RowAt w b (o + i * 3) (tokCells (l.getD i tok0)) := by
  have := h.part (i * 3) 3
  rw [toksCells_at hi] at this; exact this
theorem take_getD {l : List Tok} {i : Nat} (h : i < l.length) : l.take (i + 1) = l.take i ++ [l.getD i tok0] := by
  rw [List.take_succ_eq_append_getElem h]; simp [List.getD_eq_getElem?_getD, List.getElem?_eq_getElem h]
theorem joinF_take_le (l : List Tok) (i : Nat) : (joinF (l.take i)).length ≤ (joinF l).length := by
  have key : ∀ (r : List Tok) (acc : List UInt8), acc.length ≤ (r.foldl (fun acc u => acc ++ 32 :: u.text) acc).length := by
    intro r
    induction r with
    | nil => intro acc; exact Nat.le_refl _
    | cons u r ih => intro acc; rw [List.foldl_cons]; refine Nat.le_trans ?_ (ih _); simp
  cases l with
  | nil => simp
  | cons t r =>
    cases i with
    | zero => simp [joinF]
    | succ i =>
      rw [List.take_succ_cons]
      show (List.foldl (fun acc u => acc ++ 32 :: Tok.text u) t.text (r.take i)).length ≤ (List.foldl (fun acc u => acc ++ 32 :: Tok.text u) t.text r).length
      conv => rhs; rw [← List.take_append_drop i r, List.foldl_append]
      exact key _ _
section
open Go.Shelf
def lays169_ren : Go.Shelf.Ren := ⟨fun | 169 => 26 | n => n, fun | 70 => 45 | 9 => 9 | 0 => 0 | 72 => 47 | 37 => 31 | 127 => 58 | 3 => 3 | 5 => 5 | n => n, fun | n => n⟩
theorem lays169 : Go.Proofs.Lays.n169 PP lays169_ren := {
  mixed := by kernel_rfl
  f169 := Go.Proofs.Tryd.func26.trans (congrArg some (by kernel_rfl))
  t0 := Go.Proofs.Tryd.underlying0
  a0 := Go.Proofs.Tryd.isAgg0
  z0 := Go.Proofs.Tryd.sizeOf0
  v0 := Go.Proofs.Tryd.zeroValue0
  t3 := Go.Proofs.Tryd.underlying3
  a3 := Go.Proofs.Tryd.isAgg3
  z3 := Go.Proofs.Tryd.sizeOf3
  v3 := Go.Proofs.Tryd.zeroValue3
  t9 := Go.Proofs.Tryd.underlying9
  a9 := Go.Proofs.Tryd.isAgg9
  z9 := Go.Proofs.Tryd.sizeOf9
  v9 := Go.Proofs.Tryd.zeroValue9
  t37 := Go.Proofs.Tryd.underlying31
  a37 := Go.Proofs.Tryd.isAgg31
  z37 := Go.Proofs.Tryd.sizeOf31
  v37 := Go.Proofs.Tryd.zeroValue31
  t70 := Go.Proofs.Tryd.underlying45
  a70 := Go.Proofs.Tryd.isAgg45
  z70 := Go.Proofs.Tryd.sizeOf45
  v70 := Go.Proofs.Tryd.zeroValue45
  t72 := Go.Proofs.Tryd.underlying47
  a72 := Go.Proofs.Tryd.isAgg47
  z72 := Go.Proofs.Tryd.sizeOf47
  v72 := Go.Proofs.Tryd.zeroValue47
  t127 := Go.Proofs.Tryd.underlying58
  a127 := Go.Proofs.Tryd.isAgg58
  z127 := Go.Proofs.Tryd.sizeOf58
  v127 := Go.Proofs.Tryd.zeroValue58 }
theorem builder_Extra_169 : Go.Proofs.Builder.Extra PP lays169_ren := {
  sizeBuilder := by kernel_rfl
  liesBuilder := by kernel_rfl
  t5 := Go.Proofs.Tryd.underlying5
  a5 := Go.Proofs.Tryd.isAgg5
  z5 := Go.Proofs.Tryd.sizeOf5
  v5 := Go.Proofs.Tryd.zeroValue5
  infoByte := by kernel_rfl
  cellsByte := by kernel_rfl
  sizeByte := by kernel_rfl
  neB5 := by decide }
end
theorem bstring_ok (base b : Nat) (l : List UInt8) (p a : Option Addr) (q : Nat) (w : World) (h : Bld base b l p a q w) : Ret PP fn_strings_Builder_String #[.pointer (some ⟨b, 0, none⟩)] w fun v w' => v = Str l ∧ Below base w w' := by
  have hB : Lib.IsBuilder ty_strings_Builder ty_uint8 base b (Lib.byteCells l) w := by
    have e : (Lib.byteCells l).length = l.length := Lib.byteCells_length l
    rcases h.hp with e1 | e1
    · subst e1; exact .inl ⟨h.hb, _, h.B, by rw [e]; exact h.row, h.n1⟩
    · subst e1; exact .inr ⟨h.hb, _, h.B, by rw [e]; exact h.row, h.n1⟩
  refine (Go.Proofs.Any.Builder_String_any lays169 builder_Extra_169 base b l w hB (by have := h.hb; have := h.B.lt; omega)).mono ?_
  rintro e w' ⟨rfl, hb⟩
  exact ⟨_, rfl, rfl, hb⟩
theorem join_ok (l : List Tok) (v : Value) (w : World) (hl : (joinF l).length < 100000000) (hR : RowT l v w) (hlen : l.length < 100000000) : Ret PP fn_scan_Join #[v] w fun r w' => r = Str (joinF l) ∧ G w w' := by
  obtain ⟨x, c, rfl, hrow⟩ := hR
  have g := G.refl w
  refine ret_of_sc (m := 21) func_scan_Join rfl rfl [(0, True, _)] (sub_cons rfl (sub_nil _)) ?_
  refine sc_seq fun K1 hK1 => ?_
  refine sc_text [3] ?_
  refine sr_pu rfl (fun _ => rd_assign ev_c) ?_
  refine sr_nil (hK1 _ _ ?_)
  refine sc_seq fun K2 hK2 => ?_
  refine sc_text [1] ?_
  refine sr_alloc rfl ze_strings_Builder rfl ?_
  intro b3 w3 N3
  have l3 := N3.ge g
  have g := g.trans (N3.g)
  have B3 := N3.blk
  refine sr_nil (hK2 _ _ ?_)
  refine sc_seq fun K3 hK3 => ?_
  refine sc_seq fun K4 hK4 => ?_
  refine sc_text [3, 3, 3] ?_
  refine sr_pu rfl (fun _ => rd_move (ev_t rfl)) ?_
  refine sr_pu rfl (fun _ => rd_len el_sl_api_Token (ev_t rfl)) ?_
  refine sr_pu rfl (fun _ => rd_move ev_c) ?_
  refine sr_sub [(2, _, _), (3, _, _), (6, _, _), (7, _, _), (8, _, _)] (sub_cons rfl (sub_cons rfl (sub_cons rfl (sub_cons rfl (sub_cons rfl (sub_nil _)))))) ?_
  refine sr_nil (hK4 _ _ ?_)
  refine sc_block ?_
  refine sc_loop (fun (i : Nat) u => i ≤ l.length ∧ (∃ p a q, Bld w.heap.size b3 (joinF (l.take i)) p a q u) ∧ G w u) (fun i => [(3, True, .pointer (some ⟨b3, 0, none⟩)), (6, True, .slice x l.length c), (7, True, .int .i64 l.length), (8, True, .int .i64 i)]) (fun i => l.length - i) 0
    ⟨by omega, ⟨none, none, 0, ⟨B3, l3, own_none _ _ _ _, (by intro h; cases h), .inl rfl⟩⟩, g⟩ (sub_cons rfl (sub_cons rfl (sub_cons rfl (sub_cons rfl (sub_nil _))))) ?_
  rintro i u ⟨hi, ⟨p, a, q, hb⟩, hw⟩
  have g := G.refl u
  refine sc_seq fun K5 hK5 => ?_
  refine sc_text [3] ?_
  refine sr_pu rfl (fun _ => rd_lt (ev_t rfl) (ev_t rfl)) ?_
  refine sr_nil (hK5 _ _ ?_)
  refine sc_seq fun K6 hK6 => ?_
  refine sc_cond (ev_t rfl) (fun h1 => ?_) (fun h1 => ?_)
  · replace h1 : i < l.length := by simp only [decide_eq_true_eq] at h1; omega
    obtain ⟨bx, ox, rfl, hr⟩ := hrow (by omega)
    have hrt := row_tok (hr.grow hw) h1
    have htk := take_getD h1
    have hbound := joinF_take_le l (i + 1)
    refine sc_skip (hK6 _ _ ?_)
    refine sc_sub [(3, _, _), (6, _, _), (7, _, _), (8, _, _)] (sub_cons rfl (sub_cons rfl (sub_cons rfl (sub_cons rfl (sub_nil _))))) ?_
    refine sc_seq fun K7 hK7 => ?_
    refine sc_block ?_
    refine sc_seq fun K8 hK8 => ?_
    refine sc_text [3, 3, 0, 1, 3, 2] ?_
    refine sr_pu rfl (fun _ => rd_move (ev_t rfl)) ?_
    refine sr_pu rfl (fun _ => rd_idx el_sl_api_Token (ev_t rfl) (ev_t rfl) (fun _ => by omega)) ?_
    refine sr_rd rfl (rd_loads agg_api_Token (ev_t rfl) rfl (fun _ => hrt.grow g)) ?_
    refine sr_alloc rfl ze_api_Token rfl ?_
    intro b5 w5 N5
    have l5 := N5.ge g
    have g := g.trans (N5.g)
    have B5 := N5.blk
    refine sr_pu rfl (fun _ => rd_assign (ev_t rfl)) ?_
    refine sr_store rfl sz_api_Token (ev_t rfl) (ev_t rfl) rfl rfl B5 rfl rfl ?_
    intro wS1 hgS1 hzS1 B5
    have g := g_only g hgS1 (by intro k hk; injection hk with hk; omega)
    refine sr_sub [(3, _, _), (4, _, _), (5, _, _), (6, _, _), (7, _, _), (8, _, _)] (sub_cons rfl (sub_cons rfl (sub_cons rfl (sub_cons rfl (sub_cons rfl (sub_cons rfl (sub_nil _))))))) ?_
    refine sr_nil (hK8 _ _ ?_)
    refine sc_seq fun K9 hK9 => ?_
    refine sc_seq fun K10 hK10 => ?_
    refine sc_text [3, 3] ?_
    refine sr_pu rfl (fun _ => rd_move (ev_t rfl)) ?_
    refine sr_pu rfl (fun _ => rd_gt (ev_t rfl) ev_c) ?_
    refine sr_sub [(3, _, _), (5, _, _), (6, _, _), (7, _, _), (8, _, _), (14, _, _)] (sub_cons rfl (sub_cons rfl (sub_cons rfl (sub_cons rfl (sub_cons rfl (sub_cons rfl (sub_nil _))))))) ?_
    refine sr_nil (hK10 _ _ ?_)
    refine sc_cond (ev_t rfl) (fun h2 => ?_) (fun h2 => ?_)
    · have hne : l.take i ≠ [] := by intro h; have h := congrArg List.length h; rw [List.length_take, List.length_nil] at h; have : (0 : Int) < i := of_decide_eq_true h2; omega
      rw [htk, joinF_snoc hne, List.length_append, List.length_append] at hbound
      have q5 : (Value.slice a (joinF (l.take i)).length q).ownBlock ≠ some b5 := own_ne hb.row l5
      have z5 : b3 ≠ b5 := by have := hb.B.lt; omega
      refine sc_text [2] ?_
      refine sr_call rfl (rc_call go_strings_Builder_WriteByte ev_f (args_cons (ev_t rfl) (args_cons ev_c (args_nil))) rfl) (writebyte_ok _ b3 (joinF (l.take i)) p a q 32 _ (hb.grow g) (by simp at hbound; omega)) ?_
      rintro v15 w15 ⟨rfl, ⟨a2, q2, hb⟩, hbb, hk⟩
      refine ⟨fun h => absurd h (by decide), ?_⟩
      have B5 := hk _ _ _ B5 (Ne.symm z5) q5
      have hw : G w w15 := Below.trans (hw.trans g) hbb
      have g := G.refl w15
      refine sr_sub [(3, _, _), (5, _, _), (6, _, _), (7, _, _), (8, _, _)] (sub_cons rfl (sub_cons rfl (sub_cons rfl (sub_cons rfl (sub_cons rfl (sub_nil _)))))) ?_
      refine sr_nil (hK9 _ _ ?_)
      refine sc_text [3, 0, 2] ?_
      refine sr_pu rfl (fun _ => rd_field fo_api_Token_1 (ev_t rfl)) ?_
      refine sr_rd rfl (rd_load one_string (ev_t rfl) (fun _ => by first | assumption | exact B5.at_ rfl | exact B5.row)) ?_
      refine sr_call rfl (rc_call go_strings_Builder_WriteString ev_f (args_cons (ev_t rfl) (args_cons (ev_t rfl) (args_nil))) rfl) (writestring_ok _ b3 _ _ _ _ _ _ (hb.grow g) (by first | (simp only [List.length_append] at hbound ⊢; omega) | omega)) ?_
      rintro v18 w18 ⟨⟨_, rfl⟩, ⟨a3, q3, hb⟩, hbb, hk⟩
      refine ⟨fun h => absurd h (by decide), ?_⟩
      have hw : G w w18 := Below.trans (hw.trans g) hbb
      refine sr_sub [(3, _, _), (6, _, _), (7, _, _), (8, _, _)] (sub_cons rfl (sub_cons rfl (sub_cons rfl (sub_cons rfl (sub_nil _))))) ?_
      refine sr_nil (hK7 _ _ ?_)
      refine sc_text [3, 3] ?_
      refine sr_pu rfl (fun _ => rd_add (ev_t rfl) ev_c (fun _ => by omega)) ?_
      refine sr_pu rfl (fun _ => rd_move (ev_t rfl)) ?_
      refine sr_sub [(3, _, _), (6, _, _), (7, _, _), (8, _, _)] (sub_cons rfl (sub_cons rfl (sub_cons rfl (sub_cons rfl (sub_nil _))))) ?_
      refine sr_nil (fun a ha => ?_)
      exact ⟨i + 1, ha, ⟨h1, ⟨_, _, _, by rw [htk, joinF_snoc hne]; exact hb⟩, hw⟩, by omega⟩
    · have hi0 : i = 0 := by simp only [decide_eq_false_iff_not] at h2; omega
      subst hi0
      have hj : joinF (l.take (0 + 1)) = joinF (l.take 0) ++ (l.getD 0 tok0).text := by rw [htk]; simp [joinF]
      rw [hj, List.length_append] at hbound
      refine sc_skip (hK9 _ _ ?_)
      refine sc_sub [(3, _, _), (5, _, _), (6, _, _), (7, _, _), (8, _, _)] (sub_cons rfl (sub_cons rfl (sub_cons rfl (sub_cons rfl (sub_cons rfl (sub_nil _)))))) ?_
      refine sc_text [3, 0, 2] ?_
      refine sr_pu rfl (fun _ => rd_field fo_api_Token_1 (ev_t rfl)) ?_
      refine sr_rd rfl (rd_load one_string (ev_t rfl) (fun _ => by first | assumption | exact B5.at_ rfl | exact B5.row)) ?_
      refine sr_call rfl (rc_call go_strings_Builder_WriteString ev_f (args_cons (ev_t rfl) (args_cons (ev_t rfl) (args_nil))) rfl) (writestring_ok _ b3 _ _ _ _ _ _ (hb.grow g) (by first | (simp only [List.length_append] at hbound ⊢; omega) | omega)) ?_
      rintro v18 w18 ⟨⟨_, rfl⟩, ⟨a3, q3, hb⟩, hbb, hk⟩
      refine ⟨fun h => absurd h (by decide), ?_⟩
      have hw : G w w18 := Below.trans (hw.trans g) hbb
      refine sr_sub [(3, _, _), (6, _, _), (7, _, _), (8, _, _)] (sub_cons rfl (sub_cons rfl (sub_cons rfl (sub_cons rfl (sub_nil _))))) ?_
      refine sr_nil (hK7 _ _ ?_)
      refine sc_text [3, 3] ?_
      refine sr_pu rfl (fun _ => rd_add (ev_t rfl) ev_c (fun _ => by omega)) ?_
      refine sr_pu rfl (fun _ => rd_move (ev_t rfl)) ?_
      refine sr_sub [(3, _, _), (6, _, _), (7, _, _), (8, _, _)] (sub_cons rfl (sub_cons rfl (sub_cons rfl (sub_cons rfl (sub_nil _))))) ?_
      refine sr_nil (fun a ha => ?_)
      exact ⟨0 + 1, ha, ⟨h1, ⟨_, _, _, by rw [hj]; exact hb⟩, hw⟩, by omega⟩
  · have hi : i = l.length := by simp only [decide_eq_false_iff_not] at h1; omega
    subst hi
    rw [List.take_length] at hb
    refine sc_exit rfl (hK3 _ _ ?_)
    refine sc_sub [(3, _, _)] (sub_cons rfl (sub_nil _)) ?_
    refine sc_seq fun K11 hK11 => ?_
    refine sc_text [2, 3] ?_
    refine sr_call rfl (rc_call go_strings_Builder_String ev_f (args_cons (ev_t rfl) (args_nil)) rfl) (bstring_ok _ b3 _ _ _ _ _ (hb.grow g)) ?_
    rintro v20 w20 ⟨rfl, hbb⟩
    refine ⟨fun h => absurd h (by decide), ?_⟩
    have hw : G w w20 := Below.trans (hw.trans g) hbb
    refine sr_pu rfl (fun _ => rd_assign (ev_t rfl)) ?_
    refine sr_nil (hK11 _ _ ?_)
    refine sc_sub [(2, _, _), (3, _, _), (20, _, _)] (sub_cons rfl (sub_cons rfl (sub_cons rfl (sub_nil _)))) ?_
    refine sc_ret (t_ret1 rfl rfl ?_)
    exact ⟨rfl, hw⟩
end Go.Rk
