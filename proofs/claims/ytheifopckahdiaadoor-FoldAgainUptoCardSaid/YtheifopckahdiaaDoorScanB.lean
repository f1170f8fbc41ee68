/- The scanner's methods. Conditions: none. -/
import Derived.Test.YtheifopckahdiaaDoorScanA
namespace Go.Rk
open Go Go.RowKit
def preB (p s : List UInt8) : Bool := decide (p.length ≤ s.length) && decide (s.take p.length = p)
theorem hasprefix_ok (s p : List UInt8) (w : World) : Ret PP fn_internal_stringslite_HasPrefix #[Str s, Str p] w fun v w' => v = .bool (preB p s) ∧ G w w' := by
  have g := G.refl w
  refine ret_of_sc (m := 18) func_internal_stringslite_HasPrefix rfl rfl [(0, True, _), (1, True, _)] (sub_cons rfl (sub_cons rfl (sub_nil _))) ?_
  refine sc_seq fun K1 hK1 => ?_
  refine sc_text [3] ?_
  refine sr_pu rfl (fun _ => rd_assign ev_c) ?_
  refine sr_nil (hK1 _ _ ?_)
  refine sc_seq fun K2 hK2 => ?_
  refine sc_text [3, 3, 3, 3, 3, 3, 3, 3, 3, 3, 3, 3, 3, 3] ?_
  refine sr_pu rfl (fun _ => rd_move (ev_t rfl)) ?_
  refine sr_pu rfl (fun _ => rd_slen str_string (ev_t rfl)) ?_
  refine sr_pu rfl (fun _ => rd_move (ev_t rfl)) ?_
  refine sr_pu rfl (fun _ => rd_slen str_string (ev_t rfl)) ?_
  refine sr_pu rfl (fun _ => rd_ge (ev_t rfl) (ev_t rfl)) ?_
  refine sr_pu rfl (fun _ => rd_move (ev_t rfl)) ?_
  refine sr_pug rfl rfl rfl (fun _ => rd_move (ev_t rfl)) ?_
  refine sr_pug rfl rfl rfl (fun _ => rd_move (ev_t rfl)) ?_
  refine sr_pug rfl rfl rfl (fun _ => rd_slen str_string (ev_u rfl id)) ?_
  refine sr_pug rfl rfl rfl (fun _ => rd_ssl_to str_string (ev_u rfl id) (ev_u rfl id) (fun hc => ⟨by omega, by have := of_decide_eq_true hc.2; omega⟩)) ?_
  refine sr_pug rfl rfl rfl (fun _ => rd_move (ev_t rfl)) ?_
  refine sr_pug rfl rfl rfl (fun _ => rd_seq (ev_u rfl id) (ev_u rfl id)) ?_
  refine sr_pu rfl (fun _ => rd_pick_and (ev_t rfl) (ev_u rfl id)) ?_
  refine sr_pu rfl (fun _ => rd_assign (ev_t rfl)) ?_
  refine sr_sub [(4, _, _)] (sub_cons rfl (sub_nil _)) ?_
  refine sr_nil (hK2 _ _ ?_)
  refine sc_ret (t_ret1 rfl rfl ?_)
  refine ⟨?_, g⟩; unfold preB; simp
theorem shasprefix_ok (s p : List UInt8) (w : World) : Ret PP fn_strings_HasPrefix #[Str s, Str p] w fun v w' => v = .bool (preB p s) ∧ G w w' := by
  have g := G.refl w
  refine ret_of_sc (m := 8) func_strings_HasPrefix rfl rfl [(0, True, _), (1, True, _)] (sub_cons rfl (sub_cons rfl (sub_nil _))) ?_
  refine sc_seq fun K1 hK1 => ?_
  refine sc_text [3] ?_
  refine sr_pu rfl (fun _ => rd_assign ev_c) ?_
  refine sr_nil (hK1 _ _ ?_)
  refine sc_seq fun K2 hK2 => ?_
  refine sc_text [3, 3, 1, 3] ?_
  refine sr_pu rfl (fun _ => rd_move (ev_t rfl)) ?_
  refine sr_pu rfl (fun _ => rd_move (ev_t rfl)) ?_
  refine sr_pure rfl (rc_call go_internal_stringslite_HasPrefix ev_f (args_cons (ev_t rfl) (args_cons (ev_t rfl) (args_nil))) rfl) (hasprefix_ok _ _ _) (fun w7 g7 => ?_)
  have g := g.trans (g7)
  refine sr_pu rfl (fun _ => rd_assign (ev_t rfl)) ?_
  refine sr_sub [(4, _, _)] (sub_cons rfl (sub_nil _)) ?_
  refine sr_nil (hK2 _ _ ?_)
  refine sc_ret (t_ret1 rfl rfl ?_)
  exact ⟨rfl, g⟩

structure Tok where
  kind : Int
  text : List UInt8
  pos : Int
def tokCells (t : Tok) : List Value := [.int .i64 t.kind, Str t.text, .int .i64 t.pos]
def toksCells (l : List Tok) : List Value := l.flatMap tokCells
theorem toksCells_length (l : List Tok) : (toksCells l).length = l.length * 3 := by
  unfold toksCells
  induction l with
  | nil => rfl
  | cons t l ih => rw [List.flatMap_cons, List.length_append, ih]; simp [tokCells]; omega
theorem toksCells_snoc (l : List Tok) (t : Tok) : toksCells (l ++ [t]) = toksCells l ++ tokCells t := by simp [toksCells]
theorem tokCells_one (t : Tok) : ∀ u ∈ tokCells t, u.oneCell' = true := by
  intro u hu; simp [tokCells] at hu; rcases hu with rfl | rfl | rfl <;> rfl

/-- The scanner's state in block b: the text, the place, the tokens, the comments. -/
def Scn (base b : Nat) (s : List UInt8) (p : Nat) (ts cs : List Tok) (w : World) : Prop :=
  ∃ ta tc ca cc, Blk w b ty_scan_scanner [Str s, .int .i64 p, .slice ta ts.length tc, .slice ca cs.length cc] ∧ base ≤ b ∧ w.ownsRow base ty_api_Token 3 (.slice ta ts.length tc) ts.length (toksCells ts) ∧
    w.ownsRow base ty_api_Token 3 (.slice ca cs.length cc) cs.length (toksCells cs) ∧ (Value.slice ta ts.length tc).ownBlock ≠ some b ∧ (Value.slice ca cs.length cc).ownBlock ≠ some b ∧
    (∀ k, (Value.slice ta ts.length tc).ownBlock = some k → (Value.slice ca cs.length cc).ownBlock ≠ some k) ∧ ts.length ≤ p ∧ cs.length ≤ p ∧ p ≤ s.length ∧ s.length ≤ 20000

/-- How two rows stay apart where the first one grows. -/
theorem apart_append {w : World} {base : Nat} {e : TypeId} {z : Nat} {tv tv' cv : Value} {m : Nat} {xs : List Value} (hc : w.ownsRow base e z cv m xs) (n3 : ∀ k, tv.ownBlock = some k → cv.ownBlock ≠ some k)
    (hat : tv'.ownBlock = tv.ownBlock ∨ tv'.ownBlock = some w.heap.size) : ∀ k, tv'.ownBlock = some k → cv.ownBlock ≠ some k := by
  intro k hk
  rcases hat with e | e
  · exact n3 k (e ▸ hk)
  · rw [e] at hk; injection hk with hk; subst hk; exact own_ne hc (Nat.le_refl _)
theorem apart_blk {w : World} {b : Nat} {tv tv' : Value} (hb : b < w.heap.size) (n1 : tv.ownBlock ≠ some b) (hat : tv'.ownBlock = tv.ownBlock ∨ tv'.ownBlock = some w.heap.size) : tv'.ownBlock ≠ some b := by
  rcases hat with e | e <;> rw [e]
  · exact n1
  · intro h; injection h with h; omega
theorem apart_row {w w' : World} {base : Nat} {e : TypeId} {z : Nat} {tv cv : Value} {m : Nat} {xs : List Value} (hc : w.ownsRow base e z cv m xs) (n3 : ∀ k, tv.ownBlock = some k → cv.ownBlock ≠ some k) (hg : w.grownBy w' tv.ownBlock) : w'.ownsRow base e z cv m xs :=
  own_keep hc hg (by rcases hq : cv.ownBlock with _ | k; exact .inl rfl; exact .inr (fun he => n3 k he.symm hq))

theorem put_ok (base b : Nat) (s : List UInt8) (p : Nat) (ts cs : List Tok) (kind : Int) (size : Nat) (w : World) (hs : Scn base b s p ts cs w) (h1 : 1 ≤ size) (h2 : p + size ≤ s.length) :
    Ret PP fn_scan_scanner_put #[.pointer (some ⟨b, 0, none⟩), .int .i64 kind, .int .i64 size] w fun v w' => v = .tuple #[] ∧ Scn base b s (p + size) (ts ++ [⟨kind, (s.drop p).take size, p⟩]) cs w' ∧ Below base w w' := by
  obtain ⟨ta, tc, ca, cc, hB, hb0, ht, hc, n1, n2, n3, k1, k2, k3, k4⟩ := hs
  have hb : Below base w w := Below.refl _ _
  have hlt := hB.lt
  refine ret_of_sc (m := 44) func_scan_scanner_put rfl rfl [(0, True, _), (1, True, _), (2, True, _)] (sub_cons rfl (sub_cons rfl (sub_cons rfl (sub_nil _)))) ?_
  refine sc_seq fun K1 hK1 => ?_
  refine sc_draw [3, 3, 3, 3, 0, 3, 3, 3, 3, 0, 3, 3, 3, 0, 3, 3, 3, 0, 3, 3, 3, 3, 3, 3, 0, 3, 1, 2, 3, 3, 2] [true, true, true, true, true, true, true, true, true, true, true, true, true, true, true, true, true, true, true, true, true, true, true, true, true, true, true, true, true, true, true] [0, 0, 2, 6, 14, 0, 0, 64, 192, 448, 0, 1024, 3072, 7168, 0, 16384, 49152, 114688, 0, 507904, 1048512, 0, 2097152, 6291456, 14680064, 33554400, 67108832, 134217726, 268435455, 536870911, 1073741823] mix (by kernel_rfl) ?_
  have hb := hb.drew
  have hB : Blk w.drew _ _ _ := hB
  have ht := own_drew ht
  have hc := own_drew hc
  refine sr_pu rfl (fun _ => rd_move (ev_t rfl)) ?_
  refine sr_pu rfl (fun _ => rd_move (ev_t rfl)) ?_
  refine sr_pu rfl (fun _ => rd_nil (ev_t rfl)) ?_
  refine sr_pu rfl (fun _ => rd_field fo_scan_scanner_2 (ev_t rfl)) ?_
  refine sr_rd rfl (rd_load one_sl_api_Token (ev_t rfl) (fun _ => hB.at_ rfl)) ?_
  refine sr_pu rfl (fun _ => rd_move (ev_t rfl)) ?_
  refine sr_pu rfl (fun _ => rd_move (ev_t rfl)) ?_
  refine sr_pu rfl (fun _ => rd_nil (ev_t rfl)) ?_
  refine sr_pu rfl (fun _ => rd_field fo_scan_scanner_0 (ev_t rfl)) ?_
  refine sr_rd rfl (rd_load one_string (ev_t rfl) (fun _ => hB.at_ rfl)) ?_
  refine sr_pu rfl (fun _ => rd_move (ev_t rfl)) ?_
  refine sr_pu rfl (fun _ => rd_nil (ev_t rfl)) ?_
  refine sr_pu rfl (fun _ => rd_field fo_scan_scanner_1 (ev_t rfl)) ?_
  refine sr_rd rfl (rd_load one_int (ev_t rfl) (fun _ => hB.at_ rfl)) ?_
  refine sr_pu rfl (fun _ => rd_move (ev_t rfl)) ?_
  refine sr_pu rfl (fun _ => rd_nil (ev_t rfl)) ?_
  refine sr_pu rfl (fun _ => rd_field fo_scan_scanner_1 (ev_t rfl)) ?_
  refine sr_rd rfl (rd_load one_int (ev_t rfl) (fun _ => hB.at_ rfl)) ?_
  refine sr_pu rfl (fun _ => rd_move (ev_t rfl)) ?_
  refine sr_pu rfl (fun _ => rd_add (ev_t rfl) (ev_t rfl) (fun _ => by omega)) ?_
  refine sr_pu rfl (fun _ => rd_ssl str_string (ev_t rfl) (ev_t rfl) (ev_t rfl) (fun _ => by omega)) ?_
  refine sr_pu rfl (fun _ => rd_move (ev_t rfl)) ?_
  refine sr_pu rfl (fun _ => rd_nil (ev_t rfl)) ?_
  refine sr_pu rfl (fun _ => rd_field fo_scan_scanner_1 (ev_t rfl)) ?_
  refine sr_rd rfl (rd_load one_int (ev_t rfl) (fun _ => hB.at_ rfl)) ?_
  refine sr_pu rfl (fun _ => rd_build [_, _, _] ze_api_Token rfl pl_api_Token (parts_cons (ev_t rfl) (parts_cons (ev_t rfl) (parts_cons (ev_t rfl) (parts_nil)))) rfl) ?_
  refine sr_buildSlice [_, _, _] rfl el_sl_api_Token ze_api_Token (parts_cons (ev_t rfl) (parts_nil)) rfl rfl ?_
  intro b32 w32 N32
  have hb := hb.trans (below_g N32.g (by show base ≤ w.heap.size; omega))
  have hB := hB.grow N32.g
  have ht := own_grow ht N32.g
  have hc := own_grow hc N32.g
  have hlt := hB.lt
  have B32 := N32.blk
  refine sr_append rfl el_sl_api_Token ze_api_Token rfl (by decide) (ev_t rfl) ht (ev_t rfl) rfl N32.blk.row rfl (by simp only [maxLen]; omega) (by omega) (by omega) ?_
  intro ta' tc' w33 ht' hg hat
  have hb := below_only hb hg (by omega) (fun k hk => (ht.lt k hk).1)
  have hB := hB.keep hg (Ne.symm n1)
  have n3' := apart_append hc n3 hat
  have hc := apart_row hc n3 hg
  have n3 := n3'
  have n1 := apart_blk hlt n1 hat
  refine sr_pu rfl (fun _ => rd_nil (ev_t rfl)) ?_
  refine sr_pu rfl (fun _ => rd_field fo_scan_scanner_2 (ev_t rfl)) ?_
  refine sr_store rfl sz_sl_api_Token (ev_t rfl) (ev_t rfl) rfl rfl hB rfl rfl ?_
  intro w34 hg2 hz2 hB
  have hb := below_only hb hg2 (by have := hb.size; omega) (fun k hk => by injection hk with hk; omega)
  have ht' := own_keep ht' hg2 (.inr n1)
  have hc := own_keep hc hg2 (.inr n2)
  refine sr_sub [(0, _, _), (2, _, _)] (sub_cons rfl (sub_cons rfl (sub_nil _))) ?_
  refine sr_nil (hK1 _ _ ?_)
  refine sc_text [3, 3, 3, 0, 3, 3, 3, 3, 2] ?_
  refine sr_pu rfl (fun _ => rd_move (ev_t rfl)) ?_
  refine sr_pu rfl (fun _ => rd_nil (ev_t rfl)) ?_
  refine sr_pu rfl (fun _ => rd_field fo_scan_scanner_1 (ev_t rfl)) ?_
  refine sr_rd rfl (rd_load one_int (ev_t rfl) (fun _ => hB.at_ rfl)) ?_
  refine sr_pu rfl (fun _ => rd_move (ev_t rfl)) ?_
  refine sr_pu rfl (fun _ => rd_add (ev_t rfl) (ev_t rfl) (fun _ => by omega)) ?_
  refine sr_pu rfl (fun _ => rd_nil (ev_t rfl)) ?_
  refine sr_pu rfl (fun _ => rd_field fo_scan_scanner_1 (ev_t rfl)) ?_
  refine sr_store rfl sz_int (ev_t rfl) (ev_t rfl) rfl rfl hB rfl rfl ?_
  intro w44 hg3 hz3 hB
  have hb := below_only hb hg3 (by have := hb.size; omega) (fun k hk => by injection hk with hk; omega)
  have ht' := own_keep ht' hg3 (.inr n1)
  have hc := own_keep hc hg3 (.inr n2)
  refine sr_sub [] (sub_nil _) ?_
  refine sr_nil (t_end0 rfl ?_)
  have e : ((p : Int) + size).toNat - (p : Int).toNat = size := by omega
  rw [e] at ht'
  have hl : (ts ++ [(⟨kind, (s.drop p).take size, p⟩ : Tok)]).length = ts.length + 1 := by simp
  refine ⟨rfl, ⟨ta', tc', ca, cc, ?_, hb0, ?_, hc, ?_, n2, ?_, ?_, by omega, h2, k4⟩, hb⟩ <;> rw [hl]
  · exact hB
  · rw [toksCells_snoc]; exact ht'
  · exact n1
  · exact n3
  · omega
end Go.Rk
