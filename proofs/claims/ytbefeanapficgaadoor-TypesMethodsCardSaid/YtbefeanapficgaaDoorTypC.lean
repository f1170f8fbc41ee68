/- The types: texts, operators, methods. Conditions: what start-up laid. -/
import Derived.Test.YtbefeanapficgaaDoorTypB
namespace Go.Rk
open Go Go.RowKit
def tFunc : Ty := ⟨7, []⟩
def typTexts : List (List UInt8) := [[], [105, 110, 116], [98, 111, 111, 108], [110, 105, 108], [], [91, 93, 105, 110, 116], [99, 104, 97, 110, 32, 105, 110, 116], [102, 117, 110, 99, 40, 41], [109, 117, 116, 101, 120], [114, 119, 109, 117, 116, 101, 120], [103, 114, 111, 117, 112], [111, 110, 99, 101], [97, 116, 111, 109, 105, 99]]
def LaidT (w : World) : Prop := RowAt w 0 0 (typTexts.map Str)
theorem LaidT.grow {w w' : World} (h : LaidT w) (g : G w w') : LaidT w' := RowAt.grow h g
def textB (y : Ty) : List UInt8 := bif !validB y then [] else bif decide (y.kind = 4) then 42 :: y.name else typTexts.getD y.kind.toNat []
theorem valid_kind {y : Ty} (h : validB y = true) (h4 : decide (y.kind = 4) = false) : 0 ≤ y.kind ∧ y.kind ≤ 12 ∧ y.name = [] := by
  unfold validB at h; rw [h4] at h
  simp only [cond_false, Bool.and_eq_true, decide_eq_true_eq] at h
  exact ⟨h.1.1, h.1.2, h.2⟩
theorem texts_at {k : Int} (h0 : 0 ≤ k) (h1 : k ≤ 12) : (typTexts.map Str)[k.toNat]? = some (Str (typTexts.getD k.toNat [])) := by
  have hl : typTexts.length = 13 := rfl
  have h : k.toNat < typTexts.length := by omega
  rw [List.getElem?_map, List.getElem?_eq_getElem h, List.getD_eq_getElem?_getD, List.getElem?_eq_getElem h]; rfl
def tyArrP (P : Program) (t : TypeId) : Option (Nat × Nat) := match P.underlying t with
  | some (.array m e) => (tySize P e).map fun z => (m, z)
  | _ => none
theorem rd_aidxp {P : Program} {n : Nat} {σ : List Ent} {c : Prop} {wb : World} {ty : TypeId} {t m z : Nat} {x y : Operand} {b o : Nat} {k : IntKind} {i : Int} (ht : tyArrP P t = some (m, z)) (h : Ev n σ c x (.pointer (some ⟨b, o, none⟩))) (h' : Ev n σ c y (.int k i)) (hi : c → 0 ≤ i ∧ i < m) :
    Rd P n σ c wb (.indexAddr t x y) ty (.pointer (some ⟨b, o + i.toNat * z, none⟩)) := fun d pos after gd a ha hc w1 _ => by
  obtain ⟨h0, h1⟩ := hi hc
  unfold tyArrP at ht
  split at ht
  · rename_i m' e hu
    unfold tySize at ht
    cases hi2 : P.info? e with
    | none => rw [hi2] at ht; cases ht
    | some inf =>
      rw [hi2] at ht
      simp only [Option.map_some, Option.some.injEq, Prod.mk.injEq] at ht
      obtain ⟨rfl, rfl⟩ := ht
      simp [execOp, h a ha hc, h' a ha hc, Instr.indexAt, Instr.sureAddr, asIntOf, run_underlying hu, h0, h1, sizeOf, typeInfo, hi2, Addr.add_lit]
  · cases ht
theorem nameB_len {s : List UInt8} (h : nameB s = true) : s.length ≤ 32 := (name_run h).2.1
theorem ttext_ok (y : Ty) (w : World) (hL : Laid w) (hb3 : 4 ≤ w.heap.size) (hTx : LaidT w) : Ret PP fn_types_Text #[tyV y] w fun v w' => v = Str (textB y) ∧ G w w' := by
  have g := G.refl w
  refine ret_of_sc (m := 16) func_types_Text rfl rfl [(0, True, _)] (sub_cons rfl (sub_nil _)) ?_
  refine sc_seq fun K1 hK1 => ?_
  refine sc_text [1, 3] ?_
  refine sr_box rfl (ev_t rfl) rfl ?_
  intro b1 w1 N1
  have l1 := N1.ge g
  have g := g.trans (N1.g)
  have B1 := N1.blk
  refine sr_pu rfl (fun _ => rd_assign ev_c) ?_
  refine sr_sub [(1, _, _), (2, _, _)] (sub_cons rfl (sub_cons rfl (sub_nil _))) ?_
  refine sr_nil (hK1 _ _ ?_)
  refine sc_seq fun K2 hK2 => ?_
  refine sc_seq fun K3 hK3 => ?_
  refine sc_text [0, 1, 3] ?_
  refine sr_rd rfl (rd_loads agg_api_Type (ev_t rfl) rfl (fun _ => B1.row)) ?_
  refine sr_pure rfl (rc_call go_types_valid ev_f (args_cons (ev_t rfl) (args_nil)) rfl) (tvalid_ok _ _ (hL.grow g) (by have := g.size; omega)) (fun w4 g4 => ?_)
  have g := g.trans (g4)
  replace B1 := B1.grow (g4)
  refine sr_pu rfl (fun _ => rd_not (ev_t rfl)) ?_
  refine sr_sub [(1, _, _), (2, _, _), (5, _, _)] (sub_cons rfl (sub_cons rfl (sub_cons rfl (sub_nil _)))) ?_
  refine sr_nil (hK3 _ _ ?_)
  refine sc_cond (ev_t rfl) (fun h1 => ?_) (fun h1 => ?_)
  · (try simp only [bsimp] at h1)
    refine sc_seq fun K4 hK4 => ?_
    refine sc_text [3] ?_
    refine sr_pu rfl (fun _ => rd_assign ev_c) ?_
    refine sr_sub [(1, _, _), (2, _, _)] (sub_cons rfl (sub_cons rfl (sub_nil _))) ?_
    refine sr_nil (hK4 _ _ ?_)
    refine sc_ret (t_ret1 rfl rfl ?_)
    refine ⟨?_, g⟩; unfold textB; rw [h1]; rfl
  · have hv : validB y = true := by simpa using h1
    refine sc_skip (hK2 _ _ ?_)
    refine sc_sub [(1, _, _), (2, _, _)] (sub_cons rfl (sub_cons rfl (sub_nil _))) ?_
    refine sc_seq fun K5 hK5 => ?_
    refine sc_seq fun K6 hK6 => ?_
    refine sc_text [3, 0, 3] ?_
    refine sr_pu rfl (fun _ => rd_field fo_api_Type_0 (ev_t rfl)) ?_
    refine sr_rd rfl (rd_load one_int (ev_t rfl) (fun _ => B1.at_ rfl)) ?_
    refine sr_pu rfl (fun _ => rd_eq (ev_t rfl) ev_c) ?_
    refine sr_sub [(1, _, _), (2, _, _), (8, _, _)] (sub_cons rfl (sub_cons rfl (sub_cons rfl (sub_nil _)))) ?_
    refine sr_nil (hK6 _ _ ?_)
    refine sc_cond (ev_t rfl) (fun h2 => ?_) (fun h2 => ?_)
    · (try simp only [bsimp] at h2)
      refine sc_seq fun K7 hK7 => ?_
      refine sc_text [3, 0, 3, 3] ?_
      refine sr_pu rfl (fun _ => rd_field fo_api_Type_1 (ev_t rfl)) ?_
      refine sr_rd rfl (rd_load one_string (ev_t rfl) (fun _ => B1.at_ rfl)) ?_
      refine sr_pu rfl (fun _ => rd_scat ev_c (ev_t rfl) (fun _ => by
      have h4 : y.kind = 4 := by simpa using h2
      have := hv; unfold validB at this; rw [decide_eq_true h4, cond_true] at this
      have := nameB_len this; show 1 + y.name.length ≤ _; omega)) ?_
      refine sr_pu rfl (fun _ => rd_assign (ev_t rfl)) ?_
      refine sr_sub [(1, _, _), (2, _, _)] (sub_cons rfl (sub_cons rfl (sub_nil _))) ?_
      refine sr_nil (hK7 _ _ ?_)
      refine sc_ret (t_ret1 rfl rfl ?_)
      refine ⟨?_, g⟩; unfold textB; rw [h1, h2]; rfl
    · have hk := valid_kind hv h2
      have htx := hTx.grow g
      refine sc_skip (hK5 _ _ ?_)
      refine sc_sub [(1, _, _), (2, _, _)] (sub_cons rfl (sub_cons rfl (sub_nil _))) ?_
      refine sc_seq fun K8 hK8 => ?_
      refine sc_text [3, 0, 3, 0, 3] ?_
      refine sr_pu rfl (fun _ => rd_field fo_api_Type_0 (ev_t rfl)) ?_
      refine sr_rd rfl (rd_load one_int (ev_t rfl) (fun _ => B1.at_ rfl)) ?_
      refine sr_pu rfl (fun _ => rd_aidxp (m := 13) (z := 1) (by kernel_rfl) ev_g (ev_t rfl) (fun _ => by omega)) ?_
      refine sr_rd rfl (rd_load one_string (ev_t rfl) (fun _ => by have := (hTx.grow g) _ _ (texts_at hk.1 hk.2.1); simpa using this)) ?_
      refine sr_pu rfl (fun _ => rd_assign (ev_t rfl)) ?_
      refine sr_sub [(2, _, _)] (sub_cons rfl (sub_nil _)) ?_
      refine sr_nil (hK8 _ _ ?_)
      refine sc_ret (t_ret1 rfl rfl ?_)
      refine ⟨?_, g⟩; unfold textB; rw [h1, h2]; rfl
theorem rtext_ok (y : Ty) (w : World) : Ret PP fn_r05_Text #[tyV y] w fun v w' => v = Str (textB y) ∧ G w w' := by
  have g := G.refl w
  refine ret_of_sc (m := 35) func_r05_Text rfl rfl [(0, True, _)] (sub_cons rfl (sub_nil _)) ?_
  refine sc_seq fun K1 hK1 => ?_
  refine sc_text [1, 3] ?_
  refine sr_box rfl (ev_t rfl) rfl ?_
  intro b1 w1 N1
  have l1 := N1.ge g
  have g := g.trans (N1.g)
  have B1 := N1.blk
  refine sr_pu rfl (fun _ => rd_assign ev_c) ?_
  refine sr_sub [(1, _, _), (2, _, _)] (sub_cons rfl (sub_cons rfl (sub_nil _))) ?_
  refine sr_nil (hK1 _ _ ?_)
  refine sc_seq fun K2 hK2 => ?_
  refine sc_seq fun K3 hK3 => ?_
  refine sc_text [0, 1, 3] ?_
  refine sr_rd rfl (rd_loads agg_api_Type (ev_t rfl) rfl (fun _ => B1.row)) ?_
  refine sr_pure rfl (rc_call go_r05_Valid ev_f (args_cons (ev_t rfl) (args_nil)) rfl) (rvalid_ok _ _) (fun w4 g4 => ?_)
  have g := g.trans (g4)
  replace B1 := B1.grow (g4)
  refine sr_pu rfl (fun _ => rd_not (ev_t rfl)) ?_
  refine sr_sub [(1, _, _), (2, _, _), (5, _, _)] (sub_cons rfl (sub_cons rfl (sub_cons rfl (sub_nil _)))) ?_
  refine sr_nil (hK3 _ _ ?_)
  refine sc_cond (ev_t rfl) (fun h1 => ?_) (fun h1 => ?_)
  · (try simp only [bsimp] at h1)
    refine sc_seq fun K4 hK4 => ?_
    refine sc_text [3] ?_
    refine sr_pu rfl (fun _ => rd_assign ev_c) ?_
    refine sr_sub [(1, _, _), (2, _, _)] (sub_cons rfl (sub_cons rfl (sub_nil _))) ?_
    refine sr_nil (hK4 _ _ ?_)
    refine sc_ret (t_ret1 rfl rfl ?_)
    refine ⟨?_, g⟩
    have hx := h1
    unfold textB
    first
    | (rw [h1]; done)
    | (rw [h1]; rfl)
    | (have hk : y.kind = 4 := by simpa using hx
       rw [h1, decide_eq_true hk]; rfl)
    | (have hk := of_decide_eq_true hx
       rw [h1, hk]; rfl)
    | (have hk4 : decide (y.kind = 4) = false := h5
       have hk := valid_kind hv hk4
       simp only [decide_eq_false_iff_not] at h2 h3 h4 h5 h6 h7 h8 h9 h10 h11 h12 h13
       have : y.kind = 0 := by omega
       rw [h1, this]; rfl)
  · have hv : validB y = true := by simpa using h1
    refine sc_skip (hK2 _ _ ?_)
    refine sc_sub [(1, _, _), (2, _, _)] (sub_cons rfl (sub_cons rfl (sub_nil _))) ?_
    refine sc_seq fun K5 hK5 => ?_
    refine sc_seq fun K6 hK6 => ?_
    refine sc_text [3, 0] ?_
    refine sr_pu rfl (fun _ => rd_field fo_api_Type_0 (ev_t rfl)) ?_
    refine sr_rd rfl (rd_load one_int (ev_t rfl) (fun _ => B1.at_ rfl)) ?_
    refine sr_sub [(1, _, _), (2, _, _), (7, _, _)] (sub_cons rfl (sub_cons rfl (sub_cons rfl (sub_nil _)))) ?_
    refine sr_nil (hK6 _ _ ?_)
    refine sc_block ?_
    refine sc_seq fun K7 hK7 => ?_
    refine sc_text [3, 3] ?_
    refine sr_pu rfl (fun _ => rd_eq (ev_t rfl) ev_c) ?_
    refine sr_pu rfl (fun _ => rd_assign (ev_t rfl)) ?_
    refine sr_sub [(1, _, _), (2, _, _), (7, _, _), (8, _, _)] (sub_cons rfl (sub_cons rfl (sub_cons rfl (sub_cons rfl (sub_nil _))))) ?_
    refine sr_nil (hK7 _ _ ?_)
    refine sc_cond (ev_t rfl) (fun h2 => ?_) (fun h2 => ?_)
    · (try simp only [bsimp] at h2)
      refine sc_seq fun K8 hK8 => ?_
      refine sc_text [3] ?_
      refine sr_pu rfl (fun _ => rd_assign ev_c) ?_
      refine sr_sub [(2, _, _)] (sub_cons rfl (sub_nil _)) ?_
      refine sr_nil (hK8 _ _ ?_)
      refine sc_ret (t_ret1 rfl rfl ?_)
      refine ⟨?_, g⟩
      have hx := h2
      unfold textB
      first
      | (rw [h1]; done)
      | (rw [h1]; rfl)
      | (have hk : y.kind = 4 := by simpa using hx
         rw [h1, decide_eq_true hk]; rfl)
      | (have hk := of_decide_eq_true hx
         rw [h1, hk]; rfl)
      | (have hk4 : decide (y.kind = 4) = false := h5
         have hk := valid_kind hv hk4
         simp only [decide_eq_false_iff_not] at h2 h3 h4 h5 h6 h7 h8 h9 h10 h11 h12 h13
         have : y.kind = 0 := by omega
         rw [h1, this]; rfl)
    · (try simp only [bsimp] at h2)
      refine sc_seq fun K9 hK9 => ?_
      refine sc_text [3, 3] ?_
      refine sr_pu rfl (fun _ => rd_eq (ev_t rfl) ev_c) ?_
      refine sr_pu rfl (fun _ => rd_assign (ev_t rfl)) ?_
      refine sr_sub [(1, _, _), (2, _, _), (7, _, _), (10, _, _)] (sub_cons rfl (sub_cons rfl (sub_cons rfl (sub_cons rfl (sub_nil _))))) ?_
      refine sr_nil (hK9 _ _ ?_)
      refine sc_cond (ev_t rfl) (fun h3 => ?_) (fun h3 => ?_)
      · (try simp only [bsimp] at h3)
        refine sc_seq fun K10 hK10 => ?_
        refine sc_text [3] ?_
        refine sr_pu rfl (fun _ => rd_assign ev_c) ?_
        refine sr_sub [(2, _, _)] (sub_cons rfl (sub_nil _)) ?_
        refine sr_nil (hK10 _ _ ?_)
        refine sc_ret (t_ret1 rfl rfl ?_)
        refine ⟨?_, g⟩
        have hx := h3
        unfold textB
        first
        | (rw [h1]; done)
        | (rw [h1]; rfl)
        | (have hk : y.kind = 4 := by simpa using hx
           rw [h1, decide_eq_true hk]; rfl)
        | (have hk := of_decide_eq_true hx
           rw [h1, hk]; rfl)
        | (have hk4 : decide (y.kind = 4) = false := h5
           have hk := valid_kind hv hk4
           simp only [decide_eq_false_iff_not] at h2 h3 h4 h5 h6 h7 h8 h9 h10 h11 h12 h13
           have : y.kind = 0 := by omega
           rw [h1, this]; rfl)
      · (try simp only [bsimp] at h3)
        refine sc_seq fun K11 hK11 => ?_
        refine sc_text [3, 3] ?_
        refine sr_pu rfl (fun _ => rd_eq (ev_t rfl) ev_c) ?_
        refine sr_pu rfl (fun _ => rd_assign (ev_t rfl)) ?_
        refine sr_sub [(1, _, _), (2, _, _), (7, _, _), (12, _, _)] (sub_cons rfl (sub_cons rfl (sub_cons rfl (sub_cons rfl (sub_nil _))))) ?_
        refine sr_nil (hK11 _ _ ?_)
        refine sc_cond (ev_t rfl) (fun h4 => ?_) (fun h4 => ?_)
        · (try simp only [bsimp] at h4)
          refine sc_seq fun K12 hK12 => ?_
          refine sc_text [3] ?_
          refine sr_pu rfl (fun _ => rd_assign ev_c) ?_
          refine sr_sub [(2, _, _)] (sub_cons rfl (sub_nil _)) ?_
          refine sr_nil (hK12 _ _ ?_)
          refine sc_ret (t_ret1 rfl rfl ?_)
          refine ⟨?_, g⟩
          have hx := h4
          unfold textB
          first
          | (rw [h1]; done)
          | (rw [h1]; rfl)
          | (have hk : y.kind = 4 := by simpa using hx
             rw [h1, decide_eq_true hk]; rfl)
          | (have hk := of_decide_eq_true hx
             rw [h1, hk]; rfl)
          | (have hk4 : decide (y.kind = 4) = false := h5
             have hk := valid_kind hv hk4
             simp only [decide_eq_false_iff_not] at h2 h3 h4 h5 h6 h7 h8 h9 h10 h11 h12 h13
             have : y.kind = 0 := by omega
             rw [h1, this]; rfl)
        · (try simp only [bsimp] at h4)
          refine sc_seq fun K13 hK13 => ?_
          refine sc_text [3, 3] ?_
          refine sr_pu rfl (fun _ => rd_eq (ev_t rfl) ev_c) ?_
          refine sr_pu rfl (fun _ => rd_assign (ev_t rfl)) ?_
          refine sr_sub [(1, _, _), (2, _, _), (7, _, _), (14, _, _)] (sub_cons rfl (sub_cons rfl (sub_cons rfl (sub_cons rfl (sub_nil _))))) ?_
          refine sr_nil (hK13 _ _ ?_)
          refine sc_cond (ev_t rfl) (fun h5 => ?_) (fun h5 => ?_)
          · (try simp only [bsimp] at h5)
            refine sc_seq fun K14 hK14 => ?_
            refine sc_text [3, 0, 3, 3] ?_
            refine sr_pu rfl (fun _ => rd_field fo_api_Type_1 (ev_t rfl)) ?_
            refine sr_rd rfl (rd_load one_string (ev_t rfl) (fun _ => B1.at_ rfl)) ?_
            refine sr_pu rfl (fun _ => rd_scat ev_c (ev_t rfl) (fun _ => by
            have h4 : y.kind = 4 := by simpa using h5
            have := hv; unfold validB at this; rw [decide_eq_true h4, cond_true] at this
            have := nameB_len this; show 1 + y.name.length ≤ _; omega)) ?_
            refine sr_pu rfl (fun _ => rd_assign (ev_t rfl)) ?_
            refine sr_sub [(2, _, _)] (sub_cons rfl (sub_nil _)) ?_
            refine sr_nil (hK14 _ _ ?_)
            refine sc_ret (t_ret1 rfl rfl ?_)
            refine ⟨?_, g⟩
            have hx := h5
            unfold textB
            first
            | (rw [h1]; done)
            | (rw [h1]; rfl)
            | (have hk : y.kind = 4 := by simpa using hx
               rw [h1, decide_eq_true hk]; rfl)
            | (have hk := of_decide_eq_true hx
               rw [h1, hk]; rfl)
            | (have hk4 : decide (y.kind = 4) = false := h5
               have hk := valid_kind hv hk4
               simp only [decide_eq_false_iff_not] at h2 h3 h4 h5 h6 h7 h8 h9 h10 h11 h12 h13
               have : y.kind = 0 := by omega
               rw [h1, this]; rfl)
          · (try simp only [bsimp] at h5)
            refine sc_seq fun K15 hK15 => ?_
            refine sc_text [3, 3] ?_
            refine sr_pu rfl (fun _ => rd_eq (ev_t rfl) ev_c) ?_
            refine sr_pu rfl (fun _ => rd_assign (ev_t rfl)) ?_
            refine sr_sub [(2, _, _), (7, _, _), (19, _, _)] (sub_cons rfl (sub_cons rfl (sub_cons rfl (sub_nil _)))) ?_
            refine sr_nil (hK15 _ _ ?_)
            refine sc_cond (ev_t rfl) (fun h6 => ?_) (fun h6 => ?_)
            · (try simp only [bsimp] at h6)
              refine sc_seq fun K16 hK16 => ?_
              refine sc_text [3] ?_
              refine sr_pu rfl (fun _ => rd_assign ev_c) ?_
              refine sr_sub [(2, _, _)] (sub_cons rfl (sub_nil _)) ?_
              refine sr_nil (hK16 _ _ ?_)
              refine sc_ret (t_ret1 rfl rfl ?_)
              refine ⟨?_, g⟩
              have hx := h6
              unfold textB
              first
              | (rw [h1]; done)
              | (rw [h1]; rfl)
              | (have hk : y.kind = 4 := by simpa using hx
                 rw [h1, decide_eq_true hk]; rfl)
              | (have hk := of_decide_eq_true hx
                 rw [h1, hk]; rfl)
              | (have hk4 : decide (y.kind = 4) = false := h5
                 have hk := valid_kind hv hk4
                 simp only [decide_eq_false_iff_not] at h2 h3 h4 h5 h6 h7 h8 h9 h10 h11 h12 h13
                 have : y.kind = 0 := by omega
                 rw [h1, this]; rfl)
            · (try simp only [bsimp] at h6)
              refine sc_seq fun K17 hK17 => ?_
              refine sc_text [3, 3] ?_
              refine sr_pu rfl (fun _ => rd_eq (ev_t rfl) ev_c) ?_
              refine sr_pu rfl (fun _ => rd_assign (ev_t rfl)) ?_
              refine sr_sub [(2, _, _), (7, _, _), (21, _, _)] (sub_cons rfl (sub_cons rfl (sub_cons rfl (sub_nil _)))) ?_
              refine sr_nil (hK17 _ _ ?_)
              refine sc_cond (ev_t rfl) (fun h7 => ?_) (fun h7 => ?_)
              · (try simp only [bsimp] at h7)
                refine sc_seq fun K18 hK18 => ?_
                refine sc_text [3] ?_
                refine sr_pu rfl (fun _ => rd_assign ev_c) ?_
                refine sr_sub [(2, _, _)] (sub_cons rfl (sub_nil _)) ?_
                refine sr_nil (hK18 _ _ ?_)
                refine sc_ret (t_ret1 rfl rfl ?_)
                refine ⟨?_, g⟩
                have hx := h7
                unfold textB
                first
                | (rw [h1]; done)
                | (rw [h1]; rfl)
                | (have hk : y.kind = 4 := by simpa using hx
                   rw [h1, decide_eq_true hk]; rfl)
                | (have hk := of_decide_eq_true hx
                   rw [h1, hk]; rfl)
                | (have hk4 : decide (y.kind = 4) = false := h5
                   have hk := valid_kind hv hk4
                   simp only [decide_eq_false_iff_not] at h2 h3 h4 h5 h6 h7 h8 h9 h10 h11 h12 h13
                   have : y.kind = 0 := by omega
                   rw [h1, this]; rfl)
              · (try simp only [bsimp] at h7)
                refine sc_seq fun K19 hK19 => ?_
                refine sc_text [3, 3] ?_
                refine sr_pu rfl (fun _ => rd_eq (ev_t rfl) ev_c) ?_
                refine sr_pu rfl (fun _ => rd_assign (ev_t rfl)) ?_
                refine sr_sub [(2, _, _), (7, _, _), (23, _, _)] (sub_cons rfl (sub_cons rfl (sub_cons rfl (sub_nil _)))) ?_
                refine sr_nil (hK19 _ _ ?_)
                refine sc_cond (ev_t rfl) (fun h8 => ?_) (fun h8 => ?_)
                · (try simp only [bsimp] at h8)
                  refine sc_seq fun K20 hK20 => ?_
                  refine sc_text [3] ?_
                  refine sr_pu rfl (fun _ => rd_assign ev_c) ?_
                  refine sr_sub [(2, _, _)] (sub_cons rfl (sub_nil _)) ?_
                  refine sr_nil (hK20 _ _ ?_)
                  refine sc_ret (t_ret1 rfl rfl ?_)
                  refine ⟨?_, g⟩
                  have hx := h8
                  unfold textB
                  first
                  | (rw [h1]; done)
                  | (rw [h1]; rfl)
                  | (have hk : y.kind = 4 := by simpa using hx
                     rw [h1, decide_eq_true hk]; rfl)
                  | (have hk := of_decide_eq_true hx
                     rw [h1, hk]; rfl)
                  | (have hk4 : decide (y.kind = 4) = false := h5
                     have hk := valid_kind hv hk4
                     simp only [decide_eq_false_iff_not] at h2 h3 h4 h5 h6 h7 h8 h9 h10 h11 h12 h13
                     have : y.kind = 0 := by omega
                     rw [h1, this]; rfl)
                · (try simp only [bsimp] at h8)
                  refine sc_seq fun K21 hK21 => ?_
                  refine sc_text [3, 3] ?_
                  refine sr_pu rfl (fun _ => rd_eq (ev_t rfl) ev_c) ?_
                  refine sr_pu rfl (fun _ => rd_assign (ev_t rfl)) ?_
                  refine sr_sub [(2, _, _), (7, _, _), (25, _, _)] (sub_cons rfl (sub_cons rfl (sub_cons rfl (sub_nil _)))) ?_
                  refine sr_nil (hK21 _ _ ?_)
                  refine sc_cond (ev_t rfl) (fun h9 => ?_) (fun h9 => ?_)
                  · (try simp only [bsimp] at h9)
                    refine sc_seq fun K22 hK22 => ?_
                    refine sc_text [3] ?_
                    refine sr_pu rfl (fun _ => rd_assign ev_c) ?_
                    refine sr_sub [(2, _, _)] (sub_cons rfl (sub_nil _)) ?_
                    refine sr_nil (hK22 _ _ ?_)
                    refine sc_ret (t_ret1 rfl rfl ?_)
                    refine ⟨?_, g⟩
                    have hx := h9
                    unfold textB
                    first
                    | (rw [h1]; done)
                    | (rw [h1]; rfl)
                    | (have hk : y.kind = 4 := by simpa using hx
                       rw [h1, decide_eq_true hk]; rfl)
                    | (have hk := of_decide_eq_true hx
                       rw [h1, hk]; rfl)
                    | (have hk4 : decide (y.kind = 4) = false := h5
                       have hk := valid_kind hv hk4
                       simp only [decide_eq_false_iff_not] at h2 h3 h4 h5 h6 h7 h8 h9 h10 h11 h12 h13
                       have : y.kind = 0 := by omega
                       rw [h1, this]; rfl)
                  · (try simp only [bsimp] at h9)
                    refine sc_seq fun K23 hK23 => ?_
                    refine sc_text [3, 3] ?_
                    refine sr_pu rfl (fun _ => rd_eq (ev_t rfl) ev_c) ?_
                    refine sr_pu rfl (fun _ => rd_assign (ev_t rfl)) ?_
                    refine sr_sub [(2, _, _), (7, _, _), (27, _, _)] (sub_cons rfl (sub_cons rfl (sub_cons rfl (sub_nil _)))) ?_
                    refine sr_nil (hK23 _ _ ?_)
                    refine sc_cond (ev_t rfl) (fun h10 => ?_) (fun h10 => ?_)
                    · (try simp only [bsimp] at h10)
                      refine sc_seq fun K24 hK24 => ?_
                      refine sc_text [3] ?_
                      refine sr_pu rfl (fun _ => rd_assign ev_c) ?_
                      refine sr_sub [(2, _, _)] (sub_cons rfl (sub_nil _)) ?_
                      refine sr_nil (hK24 _ _ ?_)
                      refine sc_ret (t_ret1 rfl rfl ?_)
                      refine ⟨?_, g⟩
                      have hx := h10
                      unfold textB
                      first
                      | (rw [h1]; done)
                      | (rw [h1]; rfl)
                      | (have hk : y.kind = 4 := by simpa using hx
                         rw [h1, decide_eq_true hk]; rfl)
                      | (have hk := of_decide_eq_true hx
                         rw [h1, hk]; rfl)
                      | (have hk4 : decide (y.kind = 4) = false := h5
                         have hk := valid_kind hv hk4
                         simp only [decide_eq_false_iff_not] at h2 h3 h4 h5 h6 h7 h8 h9 h10 h11 h12 h13
                         have : y.kind = 0 := by omega
                         rw [h1, this]; rfl)
                    · (try simp only [bsimp] at h10)
                      refine sc_seq fun K25 hK25 => ?_
                      refine sc_text [3, 3] ?_
                      refine sr_pu rfl (fun _ => rd_eq (ev_t rfl) ev_c) ?_
                      refine sr_pu rfl (fun _ => rd_assign (ev_t rfl)) ?_
                      refine sr_sub [(2, _, _), (7, _, _), (29, _, _)] (sub_cons rfl (sub_cons rfl (sub_cons rfl (sub_nil _)))) ?_
                      refine sr_nil (hK25 _ _ ?_)
                      refine sc_cond (ev_t rfl) (fun h11 => ?_) (fun h11 => ?_)
                      · (try simp only [bsimp] at h11)
                        refine sc_seq fun K26 hK26 => ?_
                        refine sc_text [3] ?_
                        refine sr_pu rfl (fun _ => rd_assign ev_c) ?_
                        refine sr_sub [(2, _, _)] (sub_cons rfl (sub_nil _)) ?_
                        refine sr_nil (hK26 _ _ ?_)
                        refine sc_ret (t_ret1 rfl rfl ?_)
                        refine ⟨?_, g⟩
                        have hx := h11
                        unfold textB
                        first
                        | (rw [h1]; done)
                        | (rw [h1]; rfl)
                        | (have hk : y.kind = 4 := by simpa using hx
                           rw [h1, decide_eq_true hk]; rfl)
                        | (have hk := of_decide_eq_true hx
                           rw [h1, hk]; rfl)
                        | (have hk4 : decide (y.kind = 4) = false := h5
                           have hk := valid_kind hv hk4
                           simp only [decide_eq_false_iff_not] at h2 h3 h4 h5 h6 h7 h8 h9 h10 h11 h12 h13
                           have : y.kind = 0 := by omega
                           rw [h1, this]; rfl)
                      · (try simp only [bsimp] at h11)
                        refine sc_seq fun K27 hK27 => ?_
                        refine sc_text [3, 3] ?_
                        refine sr_pu rfl (fun _ => rd_eq (ev_t rfl) ev_c) ?_
                        refine sr_pu rfl (fun _ => rd_assign (ev_t rfl)) ?_
                        refine sr_sub [(2, _, _), (7, _, _), (31, _, _)] (sub_cons rfl (sub_cons rfl (sub_cons rfl (sub_nil _)))) ?_
                        refine sr_nil (hK27 _ _ ?_)
                        refine sc_cond (ev_t rfl) (fun h12 => ?_) (fun h12 => ?_)
                        · (try simp only [bsimp] at h12)
                          refine sc_seq fun K28 hK28 => ?_
                          refine sc_text [3] ?_
                          refine sr_pu rfl (fun _ => rd_assign ev_c) ?_
                          refine sr_sub [(2, _, _)] (sub_cons rfl (sub_nil _)) ?_
                          refine sr_nil (hK28 _ _ ?_)
                          refine sc_ret (t_ret1 rfl rfl ?_)
                          refine ⟨?_, g⟩
                          have hx := h12
                          unfold textB
                          first
                          | (rw [h1]; done)
                          | (rw [h1]; rfl)
                          | (have hk : y.kind = 4 := by simpa using hx
                             rw [h1, decide_eq_true hk]; rfl)
                          | (have hk := of_decide_eq_true hx
                             rw [h1, hk]; rfl)
                          | (have hk4 : decide (y.kind = 4) = false := h5
                             have hk := valid_kind hv hk4
                             simp only [decide_eq_false_iff_not] at h2 h3 h4 h5 h6 h7 h8 h9 h10 h11 h12 h13
                             have : y.kind = 0 := by omega
                             rw [h1, this]; rfl)
                        · (try simp only [bsimp] at h12)
                          refine sc_seq fun K29 hK29 => ?_
                          refine sc_text [3, 3] ?_
                          refine sr_pu rfl (fun _ => rd_eq (ev_t rfl) ev_c) ?_
                          refine sr_pu rfl (fun _ => rd_assign (ev_t rfl)) ?_
                          refine sr_sub [(2, _, _), (33, _, _)] (sub_cons rfl (sub_cons rfl (sub_nil _))) ?_
                          refine sr_nil (hK29 _ _ ?_)
                          refine sc_cond (ev_t rfl) (fun h13 => ?_) (fun h13 => ?_)
                          · (try simp only [bsimp] at h13)
                            refine sc_seq fun K30 hK30 => ?_
                            refine sc_text [3] ?_
                            refine sr_pu rfl (fun _ => rd_assign ev_c) ?_
                            refine sr_sub [(2, _, _)] (sub_cons rfl (sub_nil _)) ?_
                            refine sr_nil (hK30 _ _ ?_)
                            refine sc_ret (t_ret1 rfl rfl ?_)
                            refine ⟨?_, g⟩
                            have hx := h13
                            unfold textB
                            first
                            | (rw [h1]; done)
                            | (rw [h1]; rfl)
                            | (have hk : y.kind = 4 := by simpa using hx
                               rw [h1, decide_eq_true hk]; rfl)
                            | (have hk := of_decide_eq_true hx
                               rw [h1, hk]; rfl)
                            | (have hk4 : decide (y.kind = 4) = false := h5
                               have hk := valid_kind hv hk4
                               simp only [decide_eq_false_iff_not] at h2 h3 h4 h5 h6 h7 h8 h9 h10 h11 h12 h13
                               have : y.kind = 0 := by omega
                               rw [h1, this]; rfl)
                          · (try simp only [bsimp] at h13)
                            refine sc_skip (hK5 _ _ ?_)
                            refine sc_sub [(2, _, _)] (sub_cons rfl (sub_nil _)) ?_
                            refine sc_seq fun K31 hK31 => ?_
                            refine sc_text [3] ?_
                            refine sr_pu rfl (fun _ => rd_assign ev_c) ?_
                            refine sr_nil (hK31 _ _ ?_)
                            refine sc_ret (t_ret1 rfl rfl ?_)
                            refine ⟨?_, g⟩
                            have hx := h13
                            unfold textB
                            first
                            | (rw [h1]; done)
                            | (rw [h1]; rfl)
                            | (have hk : y.kind = 4 := by simpa using hx
                               rw [h1, decide_eq_true hk]; rfl)
                            | (have hk := of_decide_eq_true hx
                               rw [h1, hk]; rfl)
                            | (have hk4 : decide (y.kind = 4) = false := h5
                               have hk := valid_kind hv hk4
                               simp only [decide_eq_false_iff_not] at h2 h3 h4 h5 h6 h7 h8 h9 h10 h11 h12 h13
                               have : y.kind = 0 := by omega
                               rw [h1, this]; rfl)
theorem tcell_ok (y : Ty) (w : World) (hL : Laid w) (hb3 : 4 ≤ w.heap.size) : Ret PP fn_types_Cell #[tyV y] w fun v w' => v = .int .i64 (bif refB y then 1 else 0) ∧ G w w' := by
  have g := G.refl w
  refine ret_of_sc (m := 5) func_types_Cell rfl rfl [(0, True, _)] (sub_cons rfl (sub_nil _)) ?_
  refine sc_seq fun K1 hK1 => ?_
  refine sc_text [1, 3] ?_
  refine sr_box rfl (ev_t rfl) rfl ?_
  intro b1 w1 N1
  have l1 := N1.ge g
  have g := g.trans (N1.g)
  have B1 := N1.blk
  refine sr_pu rfl (fun _ => rd_assign ev_c) ?_
  refine sr_sub [(1, _, _), (2, _, _)] (sub_cons rfl (sub_cons rfl (sub_nil _))) ?_
  refine sr_nil (hK1 _ _ ?_)
  refine sc_seq fun K2 hK2 => ?_
  refine sc_seq fun K3 hK3 => ?_
  refine sc_text [0, 1] ?_
  refine sr_rd rfl (rd_loads agg_api_Type (ev_t rfl) rfl (fun _ => B1.row)) ?_
  refine sr_pure rfl (rc_call go_types_reference ev_f (args_cons (ev_t rfl) (args_nil)) rfl) (tref_ok _ _ (hL.grow g) (by have := g.size; omega)) (fun w4 g4 => ?_)
  have g := g.trans (g4)
  replace B1 := B1.grow (g4)
  refine sr_sub [(2, _, _), (4, _, _)] (sub_cons rfl (sub_cons rfl (sub_nil _))) ?_
  refine sr_nil (hK3 _ _ ?_)
  refine sc_cond (ev_t rfl) (fun h1 => ?_) (fun h1 => ?_)
  · (try simp only [bsimp] at h1)
    refine sc_seq fun K4 hK4 => ?_
    refine sc_text [3] ?_
    refine sr_pu rfl (fun _ => rd_assign ev_c) ?_
    refine sr_sub [(2, _, _)] (sub_cons rfl (sub_nil _)) ?_
    refine sr_nil (hK4 _ _ ?_)
    refine sc_ret (t_ret1 rfl rfl ?_)
    refine ⟨?_, g⟩; rw [h1]; rfl
  · (try simp only [bsimp] at h1)
    refine sc_skip (hK2 _ _ ?_)
    refine sc_sub [(2, _, _)] (sub_cons rfl (sub_nil _)) ?_
    refine sc_seq fun K5 hK5 => ?_
    refine sc_text [3] ?_
    refine sr_pu rfl (fun _ => rd_assign ev_c) ?_
    refine sr_nil (hK5 _ _ ?_)
    refine sc_ret (t_ret1 rfl rfl ?_)
    refine ⟨?_, g⟩; rw [h1]; rfl
theorem rcell_ok (y : Ty) (w : World) : Ret PP fn_r05_Cell #[tyV y] w fun v w' => v = .int .i64 (bif refB y then 1 else 0) ∧ G w w' := by
  have g := G.refl w
  refine ret_of_sc (m := 5) func_r05_Cell rfl rfl [(0, True, _)] (sub_cons rfl (sub_nil _)) ?_
  refine sc_seq fun K1 hK1 => ?_
  refine sc_text [1, 3] ?_
  refine sr_box rfl (ev_t rfl) rfl ?_
  intro b1 w1 N1
  have l1 := N1.ge g
  have g := g.trans (N1.g)
  have B1 := N1.blk
  refine sr_pu rfl (fun _ => rd_assign ev_c) ?_
  refine sr_sub [(1, _, _), (2, _, _)] (sub_cons rfl (sub_cons rfl (sub_nil _))) ?_
  refine sr_nil (hK1 _ _ ?_)
  refine sc_seq fun K2 hK2 => ?_
  refine sc_seq fun K3 hK3 => ?_
  refine sc_text [0, 1] ?_
  refine sr_rd rfl (rd_loads agg_api_Type (ev_t rfl) rfl (fun _ => B1.row)) ?_
  refine sr_pure rfl (rc_call go_r05_Reference ev_f (args_cons (ev_t rfl) (args_nil)) rfl) (rref_ok _ _) (fun w4 g4 => ?_)
  have g := g.trans (g4)
  replace B1 := B1.grow (g4)
  refine sr_sub [(2, _, _), (4, _, _)] (sub_cons rfl (sub_cons rfl (sub_nil _))) ?_
  refine sr_nil (hK3 _ _ ?_)
  refine sc_cond (ev_t rfl) (fun h1 => ?_) (fun h1 => ?_)
  · (try simp only [bsimp] at h1)
    refine sc_seq fun K4 hK4 => ?_
    refine sc_text [3] ?_
    refine sr_pu rfl (fun _ => rd_assign ev_c) ?_
    refine sr_sub [(2, _, _)] (sub_cons rfl (sub_nil _)) ?_
    refine sr_nil (hK4 _ _ ?_)
    refine sc_ret (t_ret1 rfl rfl ?_)
    refine ⟨?_, g⟩; rw [h1]; rfl
  · (try simp only [bsimp] at h1)
    refine sc_skip (hK2 _ _ ?_)
    refine sc_sub [(2, _, _)] (sub_cons rfl (sub_nil _)) ?_
    refine sc_seq fun K5 hK5 => ?_
    refine sc_text [3] ?_
    refine sr_pu rfl (fun _ => rd_assign ev_c) ?_
    refine sr_nil (hK5 _ _ ?_)
    refine sc_ret (t_ret1 rfl rfl ?_)
    refine ⟨?_, g⟩; rw [h1]; rfl
end Go.Rk
