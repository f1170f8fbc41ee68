/- The types: fields of a struct. Conditions: what start-up laid. -/
import Derived.Test.YtbefeanapficgaaDoorTypF
namespace Go.Rk
open Go Go.RowKit
structure Fld where
  name : List UInt8
  ty : Ty
def fldCells (f : Fld) : List Value := [Str f.name, .int .i64 f.ty.kind, Str f.ty.name]
theorem fldCells_length (f : Fld) : (fldCells f).length = 3 := rfl
def fld0 : Fld := ⟨[], ty0⟩
section
variable {α β : Type} (f : α → Option β)
def mapO : List α → Option (List β)
  | [] => some []
  | a :: l => match f a, mapO l with
    | some b, some r => some (b :: r)
    | _, _ => none
theorem mapO_snoc : ∀ (l : List α) (a : α), mapO f (l ++ [a]) = match mapO f l, f a with
    | some r, some b => some (r ++ [b])
    | _, _ => none
  | [], a => by simp only [mapO, List.nil_append]; cases f a <;> rfl
  | x :: l, a => by
    rw [List.cons_append, mapO, mapO_snoc l a, mapO]
    cases f x <;> cases mapO f l <;> cases f a <;> rfl
theorem mapO_bad : ∀ (l : List α) (a : α), a ∈ l → f a = none → mapO f l = none
  | x :: l, a, h, hn => by
    rw [mapO]
    rcases List.mem_cons.1 h with rfl | h
    · rw [hn]
    · rw [mapO_bad l a h hn]; cases f x <;> rfl
theorem mapO_len : ∀ (l : List α) (r : List β), mapO f l = some r → r.length = l.length
  | [], r, h => by injection h with h; subst h; rfl
  | x :: l, r, h => by
    rw [mapO] at h
    cases h1 : f x with
    | none => rw [h1] at h; cases h
    | some b =>
      cases h2 : mapO f l with
      | none => rw [h1, h2] at h; cases h
      | some r' => rw [h1, h2] at h; injection h with h; subst h; rw [List.length_cons, mapO_len l r' h2]; rfl
end
def kid0 (t : Nd) : Nd := t.kids.getD 0 nd0
def fldOf (f : Nd) : Option Fld := bif !decide (f.kind = 3) || !decide ((f.kids.length : Int) = 1) then none else bif (ofF (kid0 f)).2 then some ⟨f.text, (ofF (kid0 f)).1⟩ else none
def isStr (name : List UInt8) (d : Nd) : Bool := !(!decide (d.kind = 2) || !decide (d.text = name))
def fieldsF (t : Nd) (name : List UInt8) : List Fld × Bool := match t.kids.find? (isStr name) with
  | none => ([], false)
  | some d => match mapO fldOf d.kids with
    | none => ([], false)
    | some l => (l, true)
theorem find_at {name : List UInt8} {l : List Nd} {i : Nat} (hi : i < l.length) (h1 : ∀ j, (hj : j < l.length) → j < i → isStr name l[j] = false) (h2 : isStr name l[i] = true) : l.find? (isStr name) = some l[i] := by
  rw [List.find?_eq_some_iff_getElem]
  exact ⟨h2, i, hi, rfl, fun j hj => by rw [h1 j (by omega) hj]; rfl⟩
theorem find_no {name : List UInt8} {l : List Nd} (h1 : ∀ j, (hj : j < l.length) → isStr name l[j] = false) : l.find? (isStr name) = none := by
  rw [List.find?_eq_none]
  intro x hx
  obtain ⟨j, hj, rfl⟩ := List.getElem_of_mem hx
  rw [h1 j hj]; simp
def FldV (r : List Fld × Bool) (v : Value) (w : World) : Prop := ∃ l, v = .tuple #[l, .bool r.2] ∧ RowF fldCells w r.1 l
theorem own_fld {w : World} {base : Nat} {s : Value} {l : List Fld} (h : w.ownsRow base ty_api_Field 3 s l.length (l.flatMap fldCells)) : RowF fldCells w l s := rowf_own h rfl
theorem kid0_at {t : Nd} (h : t.kids.length = 1) : ∃ h0 : 0 < t.kids.length, kid0 t = t.kids[0] := ⟨by omega, by simp [kid0, List.getD_eq_getElem?_getD, List.getElem?_eq_getElem (show 0 < t.kids.length by omega)]⟩
theorem fld_snoc {l : List Nd} {k : Nat} (hk : k < l.length) {r : List Fld} {b : Fld} (h : mapO fldOf (l.take k) = some r) (hb : fldOf l[k] = some b) : mapO fldOf (l.take (k + 1)) = some (r ++ [b]) := by
  rw [take_step hk, mapO_snoc, h, hb]
theorem own_snoc {w : World} {base : Nat} {l : List Fld} (f : Fld) {a : Option Addr} {c : Nat} (h : w.ownsRow base ty_api_Field 3 (.slice a (l.length + 1) c) (l.length + 1) (l.flatMap fldCells ++ fldCells f)) : w.ownsRow base ty_api_Field 3 (.slice a (l ++ [f]).length c) (l ++ [f]).length ((l ++ [f]).flatMap fldCells) := by
  rw [List.flatMap_append, List.length_append, List.flatMap_cons, List.flatMap_nil, List.append_nil]; exact h
theorem tfields_ok (t : Nd) (name : List UInt8) (v : Value) (D : Nat → Prop) (w : World) (hL : Laid w) (hb3 : 4 ≤ w.heap.size) (hTx : LaidT w) (hk : Kd w D t.kids v) (hc : count t ≤ 1000000) : Ret PP fn_types_Fields #[ndV t v, Str name] w fun r w' => FldV (fieldsF t name) r w' ∧ G w w' := by
  obtain ⟨p, c, rfl, hcap, hks⟩ := hk
  have g := G.refl w
  have hlen := kids_le t
  refine ret_of_sc (m := 65) func_types_Fields rfl rfl [(0, True, _), (1, True, _)] (sub_cons rfl (sub_cons rfl (sub_nil _))) ?_
  refine sc_seq fun K1 hK1 => ?_
  refine sc_text [1, 3, 3] ?_
  refine sr_box rfl (ev_t rfl) rfl ?_
  intro b2 w2 N2
  have l2 := N2.ge g
  have g := g.trans (N2.g)
  try have hO := own_grow hO (N2.g)
  have B2 := N2.blk
  refine sr_pu rfl (fun _ => rd_assign ev_c) ?_
  refine sr_pu rfl (fun _ => rd_assign ev_c) ?_
  refine sr_sub [(1, _, _), (2, _, _), (4, _, _), (5, _, _)] (sub_cons rfl (sub_cons rfl (sub_cons rfl (sub_cons rfl (sub_nil _))))) ?_
  refine sr_nil (hK1 _ _ ?_)
  refine sc_seq fun K2 hK2 => ?_
  refine sc_seq fun K3 hK3 => ?_
  refine sc_text [3, 0, 3, 3] ?_
  refine sr_pu rfl (fun _ => rd_field fo_api_Node_4 (ev_t rfl)) ?_
  refine sr_rd rfl (rd_load one_sl_api_Node (ev_t rfl) (fun _ => B2.at_ rfl)) ?_
  refine sr_pu rfl (fun _ => rd_len el_sl_api_Node (ev_t rfl)) ?_
  refine sr_pu rfl (fun _ => rd_move ev_c) ?_
  refine sr_sub [(1, _, _), (4, _, _), (5, _, _), (14, _, _), (15, _, _), (16, _, _)] (sub_cons rfl (sub_cons rfl (sub_cons rfl (sub_cons rfl (sub_cons rfl (sub_cons rfl (sub_nil _))))))) ?_
  refine sr_nil (hK3 _ _ ?_)
  refine sc_block ?_
  refine sc_loop2 (fun (i : Nat) u1 => (i ≤ t.kids.length ∧ ∀ j, (hj : j < t.kids.length) → j < i → isStr name t.kids[j] = false) ∧ G w2 u1) [(1, True, _), (14, True, _), (15, True, _)] (fun (i : Nat) => [(16, True, .int .i64 i)]) (fun (i : Nat) => t.kids.length - i) (0) ⟨⟨Nat.zero_le _, fun j _ hj => absurd hj (Nat.not_lt_zero j)⟩, G.refl _⟩ (sub_cons rfl (sub_cons rfl (sub_cons rfl (sub_cons rfl (sub_nil _))))) ?_
  rintro i u1 ⟨hI1, gl1⟩
  have g := g.trans gl1
  replace B2 := B2.grow (gl1)
  refine sc_seq fun K4 hK4 => ?_
  refine sc_text [3] ?_
  refine sr_pu rfl (fun _ => rd_lt (ev_t rfl) (ev_t rfl)) ?_
  refine sr_nil (hK4 _ _ ?_)
  refine sc_sub [(1, _, _), (14, _, _), (15, _, _), (16, _, _), (17, _, _)] (sub_cons rfl (sub_cons rfl (sub_cons rfl (sub_cons rfl (sub_cons rfl (sub_nil _)))))) ?_
  refine sc_seq fun K5 hK5 => ?_
  refine sc_cond (ev_t rfl) (fun h1 => ?_) (fun h1 => ?_)
  · replace h1 : i < t.kids.length := by simp only [decide_eq_true_eq] at h1; omega
    obtain ⟨b, o, rfl, hD, xs, hR, hX⟩ := hks (by omega)
    obtain ⟨p', c', hcell, hkid⟩ := kd_at hR hX h1
    have hck := count_kid h1
    have hkl := kids_le t.kids[i]
    refine sc_skip (hK5 _ _ ?_)
    refine sc_sub [(1, _, _), (14, _, _), (15, _, _), (16, _, _)] (sub_cons rfl (sub_cons rfl (sub_cons rfl (sub_cons rfl (sub_nil _))))) ?_
    refine sc_seq fun K6 hK6 => ?_
    refine sc_block ?_
    refine sc_seq fun K7 hK7 => ?_
    refine sc_text [3, 0, 1, 2] ?_
    refine sr_pu rfl (fun _ => rd_idx el_sl_api_Node (ev_t rfl) (ev_t rfl) (fun _ => by omega)) ?_
    refine sr_rd rfl (rd_loads agg_api_Node (ev_t rfl) rfl (fun _ => hcell.grow g)) ?_
    refine sr_alloc rfl ze_api_Node rfl ?_
    intro b7 w7 N7
    have x7_2 := N7.ne B2
    have l7 := N7.ge g
    try have l7_gl1 := N7.ge gl1
    have g := g.trans (N7.g)
    try have gl1 := gl1.trans (N7.g)
    replace B2 := B2.grow (N7.g)
    try have hO := own_grow hO (N7.g)
    have B7 := N7.blk
    refine sr_store_all rfl sz_api_Node (ev_t rfl) (ev_t rfl) rfl rfl B7 rfl rfl ?_
    intro wS1 hgS1 hzS1
    clear B7
    intro B7
    replace B2 := B2.keep hgS1 (by intro h; injection h with h; omega)
    have g := g_only g hgS1 (by intro k hk; injection hk with hk; omega)
    first | replace gl1 := g_only gl1 hgS1 (by intro k hk; injection hk with hk; omega) | clear gl1 | skip
    refine sr_sub [(1, _, _), (7, _, _), (14, _, _), (15, _, _), (16, _, _)] (sub_cons rfl (sub_cons rfl (sub_cons rfl (sub_cons rfl (sub_cons rfl (sub_nil _)))))) ?_
    refine sr_nil (hK7 _ _ ?_)
    refine sc_seq fun K8 hK8 => ?_
    refine sc_seq fun K9 hK9 => ?_
    refine sc_text [3, 0, 3, 3, 3, 0, 3, 3, 3] ?_
    refine sr_pu rfl (fun _ => rd_field fo_api_Node_0 (ev_t rfl)) ?_
    refine sr_rd rfl (rd_load one_int (ev_t rfl) (fun _ => B7.at_ rfl)) ?_
    refine sr_pu rfl (fun _ => rd_ne (ev_t rfl) ev_c) ?_
    refine sr_pu rfl (fun _ => rd_move (ev_t rfl)) ?_
    refine sr_pug rfl rfl rfl (fun _ => rd_field fo_api_Node_1 (ev_t rfl)) ?_
    refine sr_rdg rfl rfl rfl (rd_load one_string (ev_u rfl id) (fun _ => B7.at_ rfl)) ?_
    refine sr_pug rfl rfl rfl (fun _ => rd_move (ev_t rfl)) ?_
    refine sr_pug rfl rfl rfl (fun _ => rd_sne (ev_u rfl id) (ev_u rfl id)) ?_
    refine sr_pu rfl (fun _ => rd_pick_or (ev_t rfl) (ev_u rfl id)) ?_
    refine sr_sub [(1, _, _), (7, _, _), (14, _, _), (15, _, _), (16, _, _), (28, _, _)] (sub_cons rfl (sub_cons rfl (sub_cons rfl (sub_cons rfl (sub_cons rfl (sub_cons rfl (sub_nil _))))))) ?_
    refine sr_nil (hK9 _ _ ?_)
    refine sc_cond (ev_t rfl) (fun h2 => ?_) (fun h2 => ?_)
    · replace h2 : (!decide (t.kids[i].kind = 2) || !decide (t.kids[i].text = name)) = true := h2
      refine sc_exit rfl (hK6 _ _ ?_)
      refine sc_sub [(1, _, _), (14, _, _), (15, _, _), (16, _, _)] (sub_cons rfl (sub_cons rfl (sub_cons rfl (sub_cons rfl (sub_nil _))))) ?_
      refine sc_text [3, 3] ?_
      refine sr_pu rfl (fun _ => rd_add (ev_t rfl) ev_c (fun _ => by omega)) ?_
      refine sr_pu rfl (fun _ => rd_move (ev_t rfl)) ?_
      refine sr_sub [(16, _, _), (1, _, _), (14, _, _), (15, _, _)] (sub_cons rfl (sub_cons rfl (sub_cons rfl (sub_cons rfl (sub_nil _))))) ?_
      refine sr_nil (fun a ha => ?_)
      exact ⟨i + 1, ha, ⟨⟨h1, fun j hj1 hj => by
        by_cases e : j = i
        · subst e; unfold isStr; rw [h2]; rfl
        · exact hI1.2 j hj1 (by omega)⟩, gl1⟩, by omega⟩
    · replace h2 : (!decide (t.kids[i].kind = 2) || !decide (t.kids[i].text = name)) = false := h2
      have hf := find_at h1 hI1.2 (by unfold isStr; rw [h2]; rfl)
      have hN : fieldsF t name = match mapO fldOf t.kids[i].kids with
        | none => ([], false)
        | some l => (l, true) := by unfold fieldsF; rw [hf]
      obtain ⟨p2, c2, hpe, hcap2, hks2⟩ := hkid
      injection hpe with hpe _ hce
      subst hpe hce
      have hb2 := B2.lt
      have hb7 := B7.lt
      refine sc_skip (hK8 _ _ ?_)
      refine sc_sub [(1, _, _), (7, _, _), (14, _, _), (15, _, _), (16, _, _)] (sub_cons rfl (sub_cons rfl (sub_cons rfl (sub_cons rfl (sub_cons rfl (sub_nil _)))))) ?_
      refine sc_seq fun K10 hK10 => ?_
      refine sc_text [3] ?_
      refine sr_pu rfl (fun _ => rd_assign ev_c) ?_
      refine sr_nil (hK10 _ _ ?_)
      refine sc_sub [(1, _, _), (7, _, _), (8, _, _), (14, _, _), (15, _, _), (16, _, _)] (sub_cons rfl (sub_cons rfl (sub_cons rfl (sub_cons rfl (sub_cons rfl (sub_cons rfl (sub_nil _))))))) ?_
      refine sc_seq fun K11 hK11 => ?_
      refine sc_seq fun K12 hK12 => ?_
      refine sc_text [3, 0, 3, 3] ?_
      refine sr_pu rfl (fun _ => rd_field fo_api_Node_4 (ev_t rfl)) ?_
      refine sr_rd rfl (rd_load one_sl_api_Node (ev_t rfl) (fun _ => B7.at_ rfl)) ?_
      refine sr_pu rfl (fun _ => rd_len el_sl_api_Node (ev_t rfl)) ?_
      refine sr_pu rfl (fun _ => rd_move ev_c) ?_
      refine sr_sub [(1, _, _), (8, _, _), (14, _, _), (15, _, _), (16, _, _), (30, _, _), (31, _, _), (32, _, _)] (sub_cons rfl (sub_cons rfl (sub_cons rfl (sub_cons rfl (sub_cons rfl (sub_cons rfl (sub_cons rfl (sub_cons rfl (sub_nil _))))))))) ?_
      refine sr_nil (hK12 _ _ ?_)
      refine sc_block ?_
      refine sc_loop2 (fun (x : Nat × Option Addr × Nat × List Fld) u2 => match x with | ⟨k, a, ca, l⟩ => (k ≤ t.kids[i].kids.length ∧ mapO fldOf (t.kids[i].kids.take k) = some l ∧ u2.ownsRow wS1.heap.size ty_api_Field 3 (.slice a l.length ca) l.length (l.flatMap fldCells)) ∧ G wS1 u2) [(1, True, _), (14, True, _), (15, True, _), (16, True, _), (30, True, _), (31, True, _)] (fun (x : Nat × Option Addr × Nat × List Fld) => match x with | ⟨k, a, ca, l⟩ => [(8, True, .slice a l.length ca), (32, True, .int .i64 k)]) (fun (x : Nat × Option Addr × Nat × List Fld) => match x with | ⟨k, a, ca, l⟩ => t.kids[i].kids.length - k) ((0, none, 0, [])) ⟨⟨Nat.zero_le _, rfl, own_none _ _ _ _⟩, G.refl _⟩ (sub_cons rfl (sub_cons rfl (sub_cons rfl (sub_cons rfl (sub_cons rfl (sub_cons rfl (sub_cons rfl (sub_cons rfl (sub_nil _))))))))) ?_
      rintro ⟨k, a, ca, l⟩ u2 ⟨hI2, gl2⟩
      have g := g.trans gl2
      have gl1 := gl1.trans gl2
      replace B2 := B2.grow (gl2)
      replace B7 := B7.grow (gl2)
      obtain ⟨hk, hm, hO⟩ := hI2
      have hll := mapO_len fldOf _ _ hm
      rw [List.length_take] at hll
      refine sc_seq fun K13 hK13 => ?_
      refine sc_text [3] ?_
      refine sr_pu rfl (fun _ => rd_lt (ev_t rfl) (ev_t rfl)) ?_
      refine sr_nil (hK13 _ _ ?_)
      refine sc_sub [(1, _, _), (8, _, _), (14, _, _), (15, _, _), (16, _, _), (30, _, _), (31, _, _), (32, _, _), (33, _, _)] (sub_cons rfl (sub_cons rfl (sub_cons rfl (sub_cons rfl (sub_cons rfl (sub_cons rfl (sub_cons rfl (sub_cons rfl (sub_cons rfl (sub_nil _)))))))))) ?_
      refine sc_seq fun K14 hK14 => ?_
      refine sc_cond (ev_t rfl) (fun h3 => ?_) (fun h3 => ?_)
      · replace h3 : k < t.kids[i].kids.length := by simp only [decide_eq_true_eq] at h3; omega
        obtain ⟨b2, o2, rfl, hD2, xs2, hR2, hX2⟩ := hks2 (by omega)
        obtain ⟨p3, c3, hcell3, hkid3⟩ := kd_at hR2 hX2 h3
        have hck3 := count_kid h3
        refine sc_skip (hK14 _ _ ?_)
        refine sc_sub [(1, _, _), (8, _, _), (14, _, _), (15, _, _), (16, _, _), (30, _, _), (31, _, _), (32, _, _)] (sub_cons rfl (sub_cons rfl (sub_cons rfl (sub_cons rfl (sub_cons rfl (sub_cons rfl (sub_cons rfl (sub_cons rfl (sub_nil _))))))))) ?_
        refine sc_seq fun K15 hK15 => ?_
        refine sc_block ?_
        refine sc_seq fun K16 hK16 => ?_
        refine sc_text [3, 0, 1, 2] ?_
        refine sr_pu rfl (fun _ => rd_idx el_sl_api_Node (ev_t rfl) (ev_t rfl) (fun _ => by omega)) ?_
        refine sr_rd rfl (rd_loads agg_api_Node (ev_t rfl) rfl (fun _ => hcell3.grow g)) ?_
        have hlt10 := fun k hk => (hO.lt k hk).2
        refine sr_alloc rfl ze_api_Node rfl ?_
        intro b10 w10 N10
        have x10_2 := N10.ne B2
        have x10_7 := N10.ne B7
        have l10 := N10.ge g
        try have l10_gl1 := N10.ge gl1
        try have l10_gl2 := N10.ge gl2
        have g := g.trans (N10.g)
        try have gl1 := gl1.trans (N10.g)
        try have gl2 := gl2.trans (N10.g)
        replace B2 := B2.grow (N10.g)
        replace B7 := B7.grow (N10.g)
        try have hO := own_grow hO (N10.g)
        have B10 := N10.blk
        have ne10 : (Value.slice a l.length ca).ownBlock ≠ some b10 := fun h => by have := hlt10 _ h; have := N10.at_; omega
        refine sr_store_all rfl sz_api_Node (ev_t rfl) (ev_t rfl) rfl rfl B10 rfl rfl ?_
        intro wS2 hgS2 hzS2
        clear B10
        intro B10
        replace B2 := B2.keep hgS2 (by intro h; injection h with h; omega)
        replace B7 := B7.keep hgS2 (by intro h; injection h with h; omega)
        have g := g_only g hgS2 (by intro k hk; injection hk with hk; omega)
        first | replace gl1 := g_only gl1 hgS2 (by intro k hk; injection hk with hk; omega) | clear gl1 | skip
        first | replace gl2 := g_only gl2 hgS2 (by intro k hk; injection hk with hk; omega) | clear gl2 | skip
        have hO := own_keep hO hgS2 (.inr ne10)
        refine sr_sub [(1, _, _), (8, _, _), (10, _, _), (14, _, _), (15, _, _), (16, _, _), (30, _, _), (31, _, _), (32, _, _)] (sub_cons rfl (sub_cons rfl (sub_cons rfl (sub_cons rfl (sub_cons rfl (sub_cons rfl (sub_cons rfl (sub_cons rfl (sub_cons rfl (sub_nil _)))))))))) ?_
        refine sr_nil (hK16 _ _ ?_)
        refine sc_seq fun K17 hK17 => ?_
        refine sc_seq fun K18 hK18 => ?_
        refine sc_text [3, 0, 3, 3, 3, 0, 3, 3, 3] ?_
        refine sr_pu rfl (fun _ => rd_field fo_api_Node_0 (ev_t rfl)) ?_
        refine sr_rd rfl (rd_load one_int (ev_t rfl) (fun _ => B10.at_ rfl)) ?_
        refine sr_pu rfl (fun _ => rd_ne (ev_t rfl) ev_c) ?_
        refine sr_pu rfl (fun _ => rd_move (ev_t rfl)) ?_
        refine sr_pug rfl rfl rfl (fun _ => rd_field fo_api_Node_4 (ev_t rfl)) ?_
        refine sr_rdg rfl rfl rfl (rd_load one_sl_api_Node (ev_u rfl id) (fun _ => B10.at_ rfl)) ?_
        refine sr_pug rfl rfl rfl (fun _ => rd_len el_sl_api_Node (ev_u rfl id)) ?_
        refine sr_pug rfl rfl rfl (fun _ => rd_ne (ev_u rfl id) ev_c) ?_
        refine sr_pu rfl (fun _ => rd_pick_or (ev_t rfl) (ev_u rfl id)) ?_
        refine sr_sub [(1, _, _), (8, _, _), (10, _, _), (14, _, _), (15, _, _), (16, _, _), (30, _, _), (31, _, _), (32, _, _), (44, _, _)] (sub_cons rfl (sub_cons rfl (sub_cons rfl (sub_cons rfl (sub_cons rfl (sub_cons rfl (sub_cons rfl (sub_cons rfl (sub_cons rfl (sub_cons rfl (sub_nil _))))))))))) ?_
        refine sr_nil (hK18 _ _ ?_)
        refine sc_cond (ev_t rfl) (fun h4 => ?_) (fun h4 => ?_)
        · replace h4 : (!decide (t.kids[i].kids[k].kind = 3) || !decide ((t.kids[i].kids[k].kids.length : Int) = 1)) = true := h4
          have hbad := mapO_bad fldOf _ _ (List.getElem_mem h3) (by unfold fldOf; rw [h4]; rfl)
          refine sc_seq fun K19 hK19 => ?_
          refine sc_text [3, 3] ?_
          refine sr_pu rfl (fun _ => rd_assign ev_c) ?_
          refine sr_pu rfl (fun _ => rd_assign ev_c) ?_
          refine sr_sub [(1, _, _), (4, _, _), (5, _, _), (8, _, _), (10, _, _), (14, _, _), (15, _, _), (16, _, _), (30, _, _), (31, _, _), (32, _, _)] (sub_cons rfl (sub_cons rfl (sub_cons rfl (sub_cons rfl (sub_cons rfl (sub_cons rfl (sub_cons rfl (sub_cons rfl (sub_cons rfl (sub_cons rfl (sub_cons rfl (sub_nil _)))))))))))) ?_
          refine sr_nil (hK19 _ _ ?_)
          refine sc_ret (t_rets (ts := [4, 5]) (vs := [_, _]) rfl rfl rfl ?_)
          rw [hN, hbad]; exact ⟨⟨_, rfl, rowf_nil _⟩, g⟩
        · replace h4 : (!decide (t.kids[i].kids[k].kind = 3) || !decide ((t.kids[i].kids[k].kids.length : Int) = 1)) = false := h4
          have h1k : t.kids[i].kids[k].kids.length = 1 := by
            simp only [Bool.or_eq_false_iff, Bool.not_eq_false', decide_eq_true_eq] at h4; omega
          obtain ⟨h0k, ek⟩ := kid0_at h1k
          obtain ⟨p4, c4, hpe4, _, hks4⟩ := hkid3
          injection hpe4 with hpe4 _ hce4
          subst hpe4 hce4
          obtain ⟨b4, o4, rfl, hD4, xs4, hR4, hX4⟩ := hks4 (by omega)
          obtain ⟨p5, c5, hcell5, _⟩ := kd_at hR4 hX4 h0k
          have hck5 := kids_le t.kids[i].kids[k].kids[0]
          have hck6 := count_kid h0k
          refine sc_skip (hK17 _ _ ?_)
          refine sc_sub [(1, _, _), (8, _, _), (10, _, _), (14, _, _), (15, _, _), (16, _, _), (30, _, _), (31, _, _), (32, _, _)] (sub_cons rfl (sub_cons rfl (sub_cons rfl (sub_cons rfl (sub_cons rfl (sub_cons rfl (sub_cons rfl (sub_cons rfl (sub_cons rfl (sub_nil _)))))))))) ?_
          refine sc_seq fun K20 hK20 => ?_
          refine sc_text [3, 0, 3, 0, 1, 3, 3, 3, 1, 2, 3] ?_
          refine sr_pu rfl (fun _ => rd_field fo_api_Node_4 (ev_t rfl)) ?_
          refine sr_rd rfl (rd_load one_sl_api_Node (ev_t rfl) (fun _ => B10.at_ rfl)) ?_
          refine sr_pu rfl (fun _ => rd_idx el_sl_api_Node (ev_t rfl) ev_c (fun _ => by show (0:Int) ≤ 0 ∧ (0:Int) < ((t.kids[i].kids[k].kids.length : Nat) : Int); omega)) ?_
          refine sr_rd rfl (rd_loads agg_api_Node (ev_t rfl) rfl (fun _ => hcell5.grow g)) ?_
          refine sr_pure rfl (rc_call go_types_Of ev_f (args_cons (ev_t rfl) (args_nil)) rfl) (tof_ok _ _ _ _ (hL.grow g) (by have := g.size; omega) (hTx.grow g) (by omega)) (fun w50 g50 => ?_)
          have g := g.trans (g50)
          try have gl1 := gl1.trans (g50)
          try have gl2 := gl2.trans (g50)
          replace B2 := B2.grow (g50)
          replace B7 := B7.grow (g50)
          replace B10 := B10.grow (g50)
          try have hO := own_grow hO (g50)
          refine sr_pu rfl (fun _ => rd_move (ev_t rfl)) ?_
          refine sr_pu rfl (fun _ => rd_extract (ev_t rfl) rfl) ?_
          refine sr_pu rfl (fun _ => rd_extract (ev_t rfl) rfl) ?_
          have hlt11 := fun k hk => (hO.lt k hk).2
          refine sr_alloc rfl ze_api_Type rfl ?_
          intro b11 w11 N11
          have x11_2 := N11.ne B2
          have x11_7 := N11.ne B7
          have x11_10 := N11.ne B10
          have l11 := N11.ge g
          try have l11_gl1 := N11.ge gl1
          try have l11_gl2 := N11.ge gl2
          have g := g.trans (N11.g)
          try have gl1 := gl1.trans (N11.g)
          try have gl2 := gl2.trans (N11.g)
          replace B2 := B2.grow (N11.g)
          replace B7 := B7.grow (N11.g)
          replace B10 := B10.grow (N11.g)
          try have hO := own_grow hO (N11.g)
          have B11 := N11.blk
          have ne11 : (Value.slice a l.length ca).ownBlock ≠ some b11 := fun h => by have := hlt11 _ h; have := N11.at_; omega
          refine sr_store_all rfl sz_api_Type (ev_t rfl) (ev_t rfl) rfl rfl B11 rfl rfl ?_
          intro wS3 hgS3 hzS3
          clear B11
          intro B11
          replace B2 := B2.keep hgS3 (by intro h; injection h with h; omega)
          replace B7 := B7.keep hgS3 (by intro h; injection h with h; omega)
          replace B10 := B10.keep hgS3 (by intro h; injection h with h; omega)
          have g := g_only g hgS3 (by intro k hk; injection hk with hk; omega)
          first | replace gl1 := g_only gl1 hgS3 (by intro k hk; injection hk with hk; omega) | clear gl1 | skip
          first | replace gl2 := g_only gl2 hgS3 (by intro k hk; injection hk with hk; omega) | clear gl2 | skip
          have hO := own_keep hO hgS3 (.inr ne11)
          refine sr_pu rfl (fun _ => rd_assign (ev_t rfl)) ?_
          refine sr_sub [(1, _, _), (8, _, _), (10, _, _), (11, _, _), (12, _, _), (14, _, _), (15, _, _), (16, _, _), (30, _, _), (31, _, _), (32, _, _)] (sub_cons rfl (sub_cons rfl (sub_cons rfl (sub_cons rfl (sub_cons rfl (sub_cons rfl (sub_cons rfl (sub_cons rfl (sub_cons rfl (sub_cons rfl (sub_cons rfl (sub_nil _)))))))))))) ?_
          refine sr_nil (hK20 _ _ ?_)
          refine sc_seq fun K21 hK21 => ?_
          refine sc_seq fun K22 hK22 => ?_
          refine sc_text [3, 3] ?_
          refine sr_pu rfl (fun _ => rd_move (ev_t rfl)) ?_
          refine sr_pu rfl (fun _ => rd_not (ev_t rfl)) ?_
          refine sr_sub [(1, _, _), (8, _, _), (10, _, _), (11, _, _), (14, _, _), (15, _, _), (16, _, _), (30, _, _), (31, _, _), (32, _, _), (54, _, _)] (sub_cons rfl (sub_cons rfl (sub_cons rfl (sub_cons rfl (sub_cons rfl (sub_cons rfl (sub_cons rfl (sub_cons rfl (sub_cons rfl (sub_cons rfl (sub_cons rfl (sub_nil _)))))))))))) ?_
          refine sr_nil (hK22 _ _ ?_)
          refine sc_cond (ev_t rfl) (fun h5 => ?_) (fun h5 => ?_)
          · replace h5 : (!(ofF t.kids[i].kids[k].kids[0]).2) = true := h5
            have hbad := mapO_bad fldOf _ _ (List.getElem_mem h3) (by unfold fldOf; rw [h4, ek]; simp only [Bool.not_eq_true'] at h5; rw [h5]; rfl)
            refine sc_seq fun K23 hK23 => ?_
            refine sc_text [3, 3] ?_
            refine sr_pu rfl (fun _ => rd_assign ev_c) ?_
            refine sr_pu rfl (fun _ => rd_assign ev_c) ?_
            refine sr_sub [(1, _, _), (4, _, _), (5, _, _), (8, _, _), (10, _, _), (11, _, _), (14, _, _), (15, _, _), (16, _, _), (30, _, _), (31, _, _), (32, _, _)] (sub_cons rfl (sub_cons rfl (sub_cons rfl (sub_cons rfl (sub_cons rfl (sub_cons rfl (sub_cons rfl (sub_cons rfl (sub_cons rfl (sub_cons rfl (sub_cons rfl (sub_cons rfl (sub_nil _))))))))))))) ?_
            refine sr_nil (hK23 _ _ ?_)
            refine sc_ret (t_rets (ts := [4, 5]) (vs := [_, _]) rfl rfl rfl ?_)
            rw [hN, hbad]; exact ⟨⟨_, rfl, rowf_nil _⟩, g⟩
          · replace h5 : (!(ofF t.kids[i].kids[k].kids[0]).2) = false := h5
            have hgood : fldOf t.kids[i].kids[k] = some ⟨t.kids[i].kids[k].text, (ofF t.kids[i].kids[k].kids[0]).1⟩ := by unfold fldOf; rw [h4, ek]; simp only [Bool.not_eq_false'] at h5; rw [h5]; rfl
            refine sc_skip (hK21 _ _ ?_)
            refine sc_sub [(1, _, _), (8, _, _), (10, _, _), (11, _, _), (14, _, _), (15, _, _), (16, _, _), (30, _, _), (31, _, _), (32, _, _)] (sub_cons rfl (sub_cons rfl (sub_cons rfl (sub_cons rfl (sub_cons rfl (sub_cons rfl (sub_cons rfl (sub_cons rfl (sub_cons rfl (sub_cons rfl (sub_nil _))))))))))) ?_
            refine sc_text [3, 3, 0, 0, 3, 1, 2, 3] ?_
            refine sr_pu rfl (fun _ => rd_move (ev_t rfl)) ?_
            refine sr_pu rfl (fun _ => rd_field fo_api_Node_1 (ev_t rfl)) ?_
            refine sr_rd rfl (rd_load one_string (ev_t rfl) (fun _ => B10.at_ rfl)) ?_
            refine sr_rd rfl (rd_loads agg_api_Type (ev_t rfl) rfl (fun _ => B11.row)) ?_
            refine sr_pu rfl (fun _ => rd_build [_, _, _] ze_api_Field rfl pl_api_Field (parts_cons (ev_t rfl) (parts_cons (ev_t rfl) (parts_nil))) rfl) ?_
            refine sr_buildSlice [_, _, _] rfl el_sl_api_Field ze_api_Field (parts_cons (ev_t rfl) (parts_nil)) rfl rfl ?_
            intro b60 w60 N60
            have x60_2 := N60.ne B2
            have x60_7 := N60.ne B7
            have x60_10 := N60.ne B10
            have x60_11 := N60.ne B11
            have l60 := N60.ge g
            try have l60_gl1 := N60.ge gl1
            try have l60_gl2 := N60.ge gl2
            have g := g.trans (N60.g)
            try have gl1 := gl1.trans (N60.g)
            try have gl2 := gl2.trans (N60.g)
            replace B2 := B2.grow (N60.g)
            replace B7 := B7.grow (N60.g)
            replace B10 := B10.grow (N60.g)
            replace B11 := B11.grow (N60.g)
            try have hO := own_grow hO (N60.g)
            have B60 := N60.blk
            refine sr_append rfl el_sl_api_Field ze_api_Field rfl (by decide) (ev_t rfl) hO (ev_t rfl) rfl B60.row rfl (by simp only [maxLen]; omega) (by omega) (by have := gl2.size; omega) ?_
            intro a' c' w61 hO' hg61 hat
            have hOg := fun k hk => (hO.lt k hk).1
            have g := g_only g hg61 (fun k hk => by have := hOg k hk; omega)
            replace gl2 := g_only gl2 hg61 hOg
            replace B2 := B2.keep hg61 (fun he => by have := hOg _ he.symm; omega)
            replace B7 := B7.keep hg61 (fun he => by have := hOg _ he.symm; omega)
            have hO2 := own_snoc ⟨t.kids[i].kids[k].text, (ofF t.kids[i].kids[k].kids[0]).1⟩ hO'
            refine sr_pu rfl (fun _ => rd_assign (ev_t rfl)) ?_
            refine sr_sub [(1, _, _), (8, _, _), (14, _, _), (15, _, _), (16, _, _), (30, _, _), (31, _, _), (32, _, _)] (sub_cons rfl (sub_cons rfl (sub_cons rfl (sub_cons rfl (sub_cons rfl (sub_cons rfl (sub_cons rfl (sub_cons rfl (sub_nil _))))))))) ?_
            refine sr_nil (hK15 _ _ ?_)
            refine sc_text [3, 3] ?_
            refine sr_pu rfl (fun _ => rd_add (ev_t rfl) ev_c (fun _ => by omega)) ?_
            refine sr_pu rfl (fun _ => rd_move (ev_t rfl)) ?_
            refine sr_sub [(8, _, _), (32, _, _), (1, _, _), (14, _, _), (15, _, _), (16, _, _), (30, _, _), (31, _, _)] (sub_cons rfl (sub_cons rfl (sub_cons rfl (sub_cons rfl (sub_cons rfl (sub_cons rfl (sub_cons rfl (sub_cons rfl (sub_nil _))))))))) ?_
            refine sr_nil (fun a ha => ?_)
            refine ⟨(k + 1, a', c', l ++ [⟨t.kids[i].kids[k].text, (ofF t.kids[i].kids[k].kids[0]).1⟩]), ?_, ⟨⟨h3, fld_snoc h3 hm hgood, hO2⟩, gl2⟩, by show t.kids[i].kids.length - (k + 1) < t.kids[i].kids.length - k; omega⟩
            simpa using ha
      · replace h3 : k = t.kids[i].kids.length := by simp only [decide_eq_false_iff_not] at h3; omega
        subst h3
        rw [List.take_length] at hm
        refine sc_exit rfl (hK11 _ _ ?_)
        refine sc_sub [(1, _, _), (8, _, _), (14, _, _), (15, _, _), (16, _, _)] (sub_cons rfl (sub_cons rfl (sub_cons rfl (sub_cons rfl (sub_cons rfl (sub_nil _)))))) ?_
        refine sc_seq fun K24 hK24 => ?_
        refine sc_text [3, 3, 3] ?_
        refine sr_pu rfl (fun _ => rd_move (ev_t rfl)) ?_
        refine sr_pu rfl (fun _ => rd_assign (ev_t rfl)) ?_
        refine sr_pu rfl (fun _ => rd_assign ev_c) ?_
        refine sr_nil (hK24 _ _ ?_)
        refine sc_sub [(1, _, _), (4, _, _), (5, _, _), (8, _, _), (14, _, _), (15, _, _), (16, _, _), (63, _, _)] (sub_cons rfl (sub_cons rfl (sub_cons rfl (sub_cons rfl (sub_cons rfl (sub_cons rfl (sub_cons rfl (sub_cons rfl (sub_nil _))))))))) ?_
        refine sc_ret (t_rets (ts := [4, 5]) (vs := [_, _]) rfl rfl rfl ?_)
        rw [hN, hm]; exact ⟨⟨_, rfl, own_fld hO⟩, g⟩
  · replace h1 : i = t.kids.length := by simp only [decide_eq_false_iff_not] at h1; omega
    subst h1
    refine sc_exit rfl (hK2 _ _ ?_)
    refine sc_sub [] (sub_nil _) ?_
    refine sc_seq fun K25 hK25 => ?_
    refine sc_text [3, 3] ?_
    refine sr_pu rfl (fun _ => rd_assign ev_c) ?_
    refine sr_pu rfl (fun _ => rd_assign ev_c) ?_
    refine sr_nil (hK25 _ _ ?_)
    refine sc_ret (t_rets (ts := [4, 5]) (vs := [_, _]) rfl rfl rfl ?_)
    have hN : fieldsF t name = ([], false) := by unfold fieldsF; rw [find_no fun j hj => hI1.2 j hj (by omega)]
    rw [hN]; exact ⟨⟨_, rfl, rowf_nil _⟩, g⟩
end Go.Rk
