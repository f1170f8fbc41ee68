/- Merged texts of one road: CkW, CkZ, FldR, FldE, FldS, Fcw. Conditions: each text's own. -/
import Derived.Test.YtgfkioikloeaiaaGreatDoorA06
import Derived.Test.YtgfkioikloeaiaaGreatDoorA03
import Derived.Test.YtgfkioikloeaiaaGreatDoorA02
set_option linter.unusedSimpArgs false
set_option linter.unusedVariables false
namespace Go.Rk
open Go.Proofs
open Go Go.RowKit
set_option maxHeartbeats 4000000
theorem Qtd (F p : Nd) (S : CSt) : ∀ i, (parA F p S i).1.length = i
 | 0 => rfl
 | i + 1 => by
  show ((parA F p S i).1 ++ [_]).length = _
  rw [List.length_append, Qtd F p S i]; rfl
theorem Qud (F p : Nd) (S : CSt) : ∀ i, Stp i S (parA F p S i).2
 | 0 => Stp.refl S
 | i + 1 => ((Qud F p S i).trans (Jpb _ _ _ _)).trans (Xma _ _ _)
theorem Uff (S : CSt) : Bd (funS0 S) 0 := ⟨Nat.le_refl _, Nat.le_refl _, fun k hk => by
 have : k ∈ [0] := hk
 simp at this; omega, by show (0 : Nat) < 1; decide, Nat.le_refl _, fun v hv => by cases hv⟩
theorem Xdf {S : CSt} {N : Nat} (h : Bd S N) (y : Ty) : Bd { S with result := y } N := ⟨h.vl, h.nl, h.nx, h.lv, h.sc, h.vs⟩
theorem Xef (F p : Nd) (S : CSt) (i : Nat) : Bd (parA F p (funS0 S) i).2 i := by
 have := (Qud F p (funS0 S) i).bd _ (Uff S)
 rwa [Nat.zero_add] at this
theorem Ugf (F n : Nd) (S : CSt) : Bd (funS2 F n S) (Zd n 0).kids.length := by
 have h1 : Bd (funS1 F n S) (Zd n 0).kids.length := Xdf (Xef F _ S _) _
 unfold funS2
 cases decide ((Zd n 1).kind = 9)
 ·exact Xdf ((Xma F (Zd n 1) (funS1 F n S)).bd _ h1) _
 ·exact h1
theorem Uhf {F t : Nd} (H : FSh F) (hk4 : t.kind = 4) (hp : permF t = true) {n0 b : Nat} {S : CSt} {w : World} {v : Value} (h : Chk F n0 b S w) (hkw : Kd w (fun k => k < n0) t.kids v) (hcn : count t ≤ 1000000) :
  Ret PP Wca #[.pointer (some ⟨b, 0, none⟩), ndV t v] w fun r w' => RetN (funR F t S).1 w.heap.size r w' ∧ Chk F n0 b (funR F t S).2 w' ∧ GT mutR n0 w w' := by
 obtain ⟨p, c, rfl, _⟩ := id hkw
 obtain ⟨hl, ⟨hk5, hp5⟩, ht1, hk10, hp10⟩ := pf4 hk4 hp
 have hc3 := cn3 hl
 have hb2 : blockB (Zd t 2) = true := by unfold blockB; rw [hk10, hp10]; rfl
 have hk0 := hkw
 have hlt := h.lt
 have hlq := Qt (Zd t 0)
 have hs2 : CkM' 1000001 F Jt (Zd t 2) (ckT F (Zd t 2)).sts := (Zsf H _ _ (Nat.le_refl _)).sts hb2
 have hbd2 := Ugf F t S
 obtain ⟨fv, sv, sn, h⟩ := h
 have g := GT.refl mutR n0 w
 refine Yp (m := 136) Qla J J [(0, True, _), (1, True, _)] (Za J (Za J (Zj _))) ?_
 refine Ze (Zg (Wq J (Zk J) J ?_))
 intro b3 w3 N3
 have l3 := Xm N3 g.size
 have g := gtg g N3.g
 have h := h.grow (N3.g)
 have hk0 := hk0.grow (N3.g)
 have E := (Wo _).new N3
 refine Yh J Zm J ?_
 intro b4 w4 N4
 have l4 := Xm N4 g.size
 have g := gtg g N4.g
 have h := h.grow (N4.g)
 have hk0 := hk0.grow (N4.g)
 replace E := E.new N4
 refine Zb (kq (Ze (Zg (Yk Zc J J E.g1.row (Ya J (Zo Vg Yo (aqc J aq0) J) (Uw t _ _ _) ?_)))))
 rintro v14 w14 ⟨rfl, g14⟩
 refine ⟨fun _ => g14, ?_⟩
 have g := gtg g g14
 replace E := E.grow g14
 have h := h.grow (g14)
 have hk0 := hk0.grow (g14)
 refine Yh J Zm J ?_
 intro b5 w5 N5
 have l5 := Xm N5 g.size
 have g := gtg g N5.g
 have h := h.grow (N5.g)
 have hk0 := hk0.grow (N5.g)
 replace E := E.new N5
 refine Yt Zl J J J E.g0 ?_
 intro wS1 hgS1 _ BS
 have C5 := E.g0
 replace E := E.s0 hgS1 BS
 have g := Zy g hgS1 (by omega)
 have h := h.keep hgS1 C5 rfl (by omega)
 have hk0 := hk0.keep hgS1 (fun k hk _ e => by injection e with e; omega)
 refine Zb (kq (Ze (Zg (Zt J (Zt J (Zt J (Zt J (Yb _ J Ul Yxa (pqc J pq0) J J ?_))))))))
 intro b19 w19 N19
 have l19 := Xm N19 g.size
 have B19 := N19.blk
 have g := gtg g N19.g
 replace E := E.grow N19.g
 have h := h.grow (N19.g)
 have hk0 := hk0.grow (N19.g)
 refine Ui J (Zx Xx J (Ww J Qm (Zk J) Xy J J h.B J J ?_))
 intro wA hgA hzA BA
 replace E := E.keepT hgA (h.B) rfl
 have g := Yja g hgA h.B rfl h.hb
 have hk0 := hk0.keep hgA (fun k hk _ e => by injection e with e; have := h.hb; omega)
 have B19 := B19.keep hgA (by intro e; injection e with e; exact Zve B19 h.B rfl e)
 have h := h.setv (S' := { S with vars := [] }) (Qfb _ _) (show World.ownsRow _ n0 Wx 6 (.slice none 0 0) 0 [] from ⟨rfl, .inl ⟨rfl, rfl⟩⟩) hgA BA rfl
 refine Ui J (Zx Vh J (Ww J Vb (Zk J) Xy J J h.B J J ?_))
 intro wB hgB hzB BB
 replace E := E.keepT hgB (h.B) rfl
 have g := Yja g hgB h.B rfl h.hb
 have hk0 := hk0.keep hgB (fun k hk _ e => by injection e with e; have := h.hb; omega)
 have B19 := B19.keep hgB (by intro e; injection e with e; exact Zve B19 h.B rfl e)
 have h := h.set (S' := { S with vars := [], scope := 0 }) hgB BB rfl rfl
 refine Ui J (Zx Wv J (Ww J Vb (Zk J) Xy J J h.B J J ?_))
 intro wC hgC hzC BC
 replace E := E.keepT hgC (h.B) rfl
 have g := Yja g hgC h.B rfl h.hb
 have hk0 := hk0.keep hgC (fun k hk _ e => by injection e with e; have := h.hb; omega)
 have B19 := B19.keep hgC (by intro e; injection e with e; exact Zve B19 h.B rfl e)
 have h := h.set (S' := { S with vars := [], scope := 0, level := 0 }) hgC BC rfl rfl
 refine Ui J (Zx Vx J (Ww J Zlc (Zk J) (Zk J) J J h.B J J ?_))
 intro wD hgD hzD BD
 replace E := E.keepT hgD (h.B) rfl
 have g := Yja g hgD h.B rfl h.hb
 have hk0 := hk0.keep hgD (fun k hk _ e => by injection e with e; have := h.hb; omega)
 have hb19 : n0 ≤ b19 := by have := l19; omega
 have h := (h.setn (S' := funS0 S) (Qfb _ _) (Xie B19 hb19 rfl (by show 1 ≤ 1000000; decide)) hgD BD rfl).chk
 refine Zb (kq (Ze (Zg (?_))))
 obtain ⟨e0, p0, c0, hcq, hkq⟩ := Xs hk0 (i := 0) (by omega)
 have hDp : pb p < n0 := Uja hk0 (show 0 < t.kids.length by omega)
 refine Zx Zi J (Yg Zh J (E.g2.at_ J) (Ve Zf J J (by omega) e0 (Yk Zc J J hcq (Ya J (Zo Vg Yo (aqc J aq0) J) (Uw (Zd t 0) _ _ _) ?_))))
 rintro v32 w32 ⟨rfl, g32⟩
 refine ⟨fun _ => g32, ?_⟩
 have g := gtg g g32
 replace E := E.grow g32
 have h := h.grow (g32)
 have hcq := hcq.grow (g32)
 have hkq := hkq.grow (g32)
 have hk0 := hk0.grow (g32)
 refine Yh J Zm J ?_
 intro b6 w6 N6
 have l6 := Xm N6 g.size
 have g := gtg g N6.g
 have h := h.grow (N6.g)
 have hcq := hcq.grow (N6.g)
 have hkq := hkq.grow (N6.g)
 have hk0 := hk0.grow (N6.g)
 replace E := E.new N6
 refine Yt Zl J J J E.g0 ?_
 intro wS6 hgS6 _ BS
 have C6 := E.g0
 replace E := E.s0 hgS6 BS
 have g := Zy g hgS6 (by omega)
 have h := h.keep hgS6 C6 rfl (by omega)
 have hcq := Ys hcq hgS6 (by omega)
 have hkq := hkq.keep hgS6 (fun k hk _ e => by injection e with e; omega)
 have hk0 := hk0.keep hgS6 (fun k hk _ e => by injection e with e; omega)
 refine Zb (kq (Ze (Ze (Zg (Zp J (Zb (kq (Yu (?_)))))))))
 have hnd1 := E.1
 refine Jy (fun (i : Nat) u1 => (i ≤ (Zd t 0).kids.length ∧ Chk F n0 b (parA F (Zd t 0) (funS0 S) i).2 u1 ∧ ∃ s, Blk u1 b6 Vd (ndCells (clnT (Zd t 0)) s) ∧ OwnN [b3, b4, b5, b6] w.heap.size u1 (parA F (Zd t 0) (funS0 S) i).1 s) ∧ GT mutR n0 w u1) _ [(0, True, _), (3, True, _), (4, True, _), (5, True, _), (6, True, _)] (fun (i : Nat) => [(7, True, .int .i64 i)]) (fun (i : Nat) => (Zd t 0).kids.length - i) (0) ⟨⟨Nat.zero_le _, h, _, E.g0, Wlb _ _ _⟩, g⟩ (Xr (blkE E.g3) (Xr (blkE E.g2) (Xr (blkE E.g1) (Ua _)))) (Za J (Za J (Za J (Za J (Za J (Za J (Zj _))))))) ?_
 clear E
 rintro i u1 ⟨hI1, gl1⟩ ⟨B3, B4, B5, _⟩
 replace B3 : Blk _ _ _ _ := B3
 replace B4 : Blk _ _ _ _ := B4
 replace B5 : Blk _ _ _ _ := B5
 have g := gl1
 obtain ⟨hi, h, s, B6, hO⟩ := hI1
 obtain ⟨sa, sc, rfl⟩ := hO.slice
 have hk0 := hkw.gt gl1 (fun k h => h)
 obtain ⟨e0, p0, c0, hcq, hkq⟩ := Xs hk0 (i := 0) (by omega)
 obtain ⟨_, p1, c1, hc1, hk1⟩ := Xs hk0 (i := 1) (by omega)
 obtain ⟨_, p2, c2, hc2, hk2⟩ := Xs hk0 (i := 2) (by omega)
 have hlen := Qtd F (Zd t 0) (funS0 S) i
 have E := Uwa (L := [(b6, _, _), (b5, _, _), (b4, _, _), (b3, _, _)]) hnd1 ⟨B6, B5, B4, B3, trivial⟩ rfl
 refine Ze (Ze (Zg (Zt J (Zx Zi J (Yg Zh J (E.g3.at_ J) (Ve Zf J J (by omega) e0 (Zx Zi J (Yg Zh J (hcq.one (i := 4) J) (Qu Zf J (Zfa J J (Zb (kq (Yv J (fun h1 => ?_) (fun h1 => ?_))))))))))))))
 ·replace h1 : i < (Zd t 0).kids.length := by simp only [decide_eq_true_eq] at h1; omega
  obtain ⟨ef, pf, cf, hcf, hkf⟩ := Xs hkq (i := i) h1
  have hDq : pb p0 < n0 := Uja hkq h1
  have hmf : (Zd (Zd t 0) i) ∈ (Zd t 0).kids := by rw [Wm h1]; exact List.getElem_mem h1
  have hf3 := Wha (.inr hk5) hp5 _ hmf
  have hfl := (pf3 hf3.1 hf3.2).1
  have hcF := Zqa h1
  obtain ⟨eg, pg, cg, hcg, hkg⟩ := Xs hkf (i := 0) (by omega)
  have hDf : pb pf < n0 := Uja hkf (show 0 < (Zd (Zd t 0) i).kids.length by omega)
  have hbd := Xef F (Zd t 0) S i
  refine Yc (kq (Ze (Yu (Ze (Zg (Zx Zi J (Yg Zh J (E.g3.at_ J) (Ve Zf J J (by omega) e0 (Zx Zi J (Yg Zh J (hcq.one (i := 4) J) (Zt J (Ve Zf J J (by omega) ef (Yk Zc J J hcf (Yh J Zm J ?_))))))))))))))
  intro b8 w8 N8
  have l8 := Xm N8 g.size
  have hO := hO.new N8
  have g := gtg g N8.g
  have h := h.grow (N8.g)
  have hcq := hcq.grow (N8.g)
  have hc1 := hc1.grow (N8.g)
  have hc2 := hc2.grow (N8.g)
  have hcf := hcf.grow (N8.g)
  have hcg := hcg.grow (N8.g)
  have hkf := hkf.grow (N8.g)
  replace E := E.new N8
  refine Yt Zl J J J E.g0 ?_
  intro wS7 hgS7 _ BS
  have C8 := E.g0
  replace E := E.s0 hgS7 BS
  have g := Zy g hgS7 (by omega)
  have h := h.keep hgS7 C8 rfl (by omega)
  have hcq := Ys hcq hgS7 (by omega)
  have hc1 := Ys hc1 hgS7 (by omega)
  have hc2 := Ys hc2 hgS7 (by omega)
  have hcf := Ys hcf hgS7 (by omega)
  have hcg := Ys hcg hgS7 (by omega)
  have hkf := hkf.keep hgS7 (fun k hk _ e => by injection e with e; omega)
  first | have hO := hO.keept hgS7 C8 rfl | have hO := hO.keep hgS7 (by simp)
  refine Zb (kq (Ze (Zg (Zx Zi J (Yg Zh J (E.g0.at_ J) (Ve Zf J J (by omega) eg (Yk Zc J J hcg (Ya J (Zo Xfa Yo (aqc J aq0) J) (Yrb (Zd (Zd (Zd t 0) i) 0) _ _ _) ?_))))))))
  rintro v56 w56 ⟨rfl, g56⟩
  refine ⟨fun _ => g56, ?_⟩
  have g := gtg g g56
  replace E := E.grow g56
  have h := h.grow (g56)
  have hcq := hcq.grow (g56)
  have hc1 := hc1.grow (g56)
  have hc2 := hc2.grow (g56)
  have hcf := hcf.grow (g56)
  have hcg := hcg.grow (g56)
  have hkf := hkf.grow (g56)
  have hO := hO.grow (g56)
  refine Zt J (Qc J J (Qc J J (Yh J Yq J ?_)))
  intro b9 w9 N9
  have l9 := Xm N9 g.size
  have hO := hO.new N9
  have g := gtg g N9.g
  have h := h.grow (N9.g)
  have hcq := hcq.grow (N9.g)
  have hc1 := hc1.grow (N9.g)
  have hc2 := hc2.grow (N9.g)
  have hcf := hcf.grow (N9.g)
  have hcg := hcg.grow (N9.g)
  have hkf := hkf.grow (N9.g)
  replace E := E.new N9
  refine Yt Yn J J J E.g0 ?_
  intro wS8 hgS8 _ BS
  have C9 := E.g0
  replace E := E.s0 hgS8 BS
  have g := Zy g hgS8 (by omega)
  have h := h.keep hgS8 C9 rfl (by omega)
  have hcq := Ys hcq hgS8 (by omega)
  have hc1 := Ys hc1 hgS8 (by omega)
  have hc2 := Ys hc2 hgS8 (by omega)
  have hcf := Ys hcf hgS8 (by omega)
  have hcg := Ys hcg hgS8 (by omega)
  have hkf := hkf.keep hgS8 (fun k hk _ e => by injection e with e; omega)
  first | have hO := hO.keept hgS8 C9 rfl | have hO := hO.keep hgS8 (by simp)
  refine Zp J (Zb (kq (Ze (Zg (?_)))))
  have hOlt := hO.lt
  refine Yk Zc J J E.g1.row (Ya J (Zo Jz Yo (aqc J aq0) J) (Xna (Zd (Zd t 0) i) [b3, b4, b5, b6, b8, b9] hkf (by omega) (E.ltm (by simp [selB])) g.size) ?_)
  rintro v60 w60 ⟨⟨p60, c60, rfl, q60, k60⟩, g60⟩
  refine ⟨fun _ => g60, ?_⟩
  have g := gtg g g60
  replace E := E.grow g60
  have h := h.grow (g60)
  have hcq := hcq.grow (g60)
  have hc1 := hc1.grow (g60)
  have hc2 := hc2.grow (g60)
  have hcf := hcf.grow (g60)
  have hcg := hcg.grow (g60)
  have hO := hO.grow (g60)
  rw [Qeb] at k60
  refine Yh J Zm J ?_
  intro b11 w11 N11
  have l11 := Xm N11 g.size
  have hO := hO.new N11
  have k60 := k60.new N11
  have g := gtg g N11.g
  have h := h.grow (N11.g)
  have hcq := hcq.grow (N11.g)
  have hc1 := hc1.grow (N11.g)
  have hc2 := hc2.grow (N11.g)
  have hcf := hcf.grow (N11.g)
  have hcg := hcg.grow (N11.g)
  replace E := E.new N11
  refine Yt Zl J J J E.g0 ?_
  intro wS9 hgS9 _ BS
  have C11 := E.g0
  replace E := E.s0 hgS9 BS
  have g := Zy g hgS9 (by omega)
  have h := h.keep hgS9 C11 rfl (by omega)
  have hcq := Ys hcq hgS9 (by omega)
  have hc1 := Ys hc1 hgS9 (by omega)
  have hc2 := Ys hc2 hgS9 (by omega)
  have hcf := Ys hcf hgS9 (by omega)
  have hcg := Ys hcg hgS9 (by omega)
  have k60 := k60.keep hgS9 (by simp)
  first | have hO := hO.keept hgS9 C11 rfl | have hO := hO.keep hgS9 (by simp)
  refine Zb (kq (Ze (Zg (?_))))
  have B11 : Blk wS9 b11 Vd (ndCells (clnT (Zd (Zd t 0) i)) (.slice p60 ((Zd (Zd t 0) i).kids.map plainT).length c60)) := by
   have h := E.g0
   rw [Yjc, Qeb] at h; exact h
  replace E := E.r0 B11
  refine Zx Uj J (Vz Vb J J J E.g0 ?_)
  intro wS10 hgS10 _ BS
  have C11 := E.g0
  replace E := E.s0 hgS10 BS
  have g := Zy g hgS10 (by omega)
  have h := h.keep hgS10 C11 rfl (by omega)
  have hcq := Ys hcq hgS10 (by omega)
  have hc1 := Ys hc1 hgS10 (by omega)
  have hc2 := Ys hc2 hgS10 (by omega)
  have hcf := Ys hcf hgS10 (by omega)
  have hcg := Ys hcg hgS10 (by omega)
  have k60 := k60.keep hgS10 (by simp)
  first | have hO := hO.keept hgS10 C11 rfl | have hO := hO.keep hgS10 (by simp)
  refine Zb (kq (Ze (Zg (Zt J (Zx Ym J (Yg Yr J (E.g2.at_ J) (Yk Zs J J E.g1.row (Zx Yw J (Yg Zu J (E.g2.at_ J) (Ya J (Zo Ql Yo (aqc J (aqc J (aqc J (aqc J aq0)))) J) (Wga (Zd (Zd t 0) i).text (ofF (Zd (Zd (Zd t 0) i) 0)).1 (Zd (Zd t 0) i).pos h hbd (by omega)) ?_))))))))))
  rintro v68 w68 ⟨rfl, h, g68⟩
  refine ⟨nw1, ?_⟩
  have g := g.trans g68
  replace E := E.gt g68 rfl
  have hcq := hcq.gt g68 hDp
  have hc1 := hc1.gt g68 hDp
  have hc2 := hc2.gt g68 hDp
  have hcf := hcf.gt g68 hDq
  have hcg := hcg.gt g68 hDf
  have k60 := k60.gt g68
  have hO := hO.gt g68 rfl
  refine Zx Xl J (Vz Vb J J J E.g0 ?_)
  intro wS11 hgS11 _ BS
  have C11 := E.g0
  replace E := E.s0 hgS11 BS
  have g := Zy g hgS11 (by omega)
  have h := h.keep hgS11 C11 rfl (by omega)
  have hcq := Ys hcq hgS11 (by omega)
  have hc1 := Ys hc1 hgS11 (by omega)
  have hc2 := Ys hc2 hgS11 (by omega)
  have hcf := Ys hcf hgS11 (by omega)
  have hcg := Ys hcg hgS11 (by omega)
  have k60 := k60.keep hgS11 (by simp)
  first | have hO := hO.keept hgS11 C11 rfl | have hO := hO.keep hgS11 (by simp)
  refine Zb (kq (Ze (Zg (Zt J (Zx Zi J (Yg Zh J (E.g2.at_ J) (Ve Zf J J (by omega) eg (Yk Zc J J hcg (Ya J (Zo Yza Yo (aqc J (aqc J aq0)) J) (Zvc (Zd (Zd (Zd t 0) i) 0) _ _ h) ?_)))))))))
  rintro v75 w75 ⟨rfl, h, g75⟩
  refine ⟨nw1, ?_⟩
  have g := g.trans g75
  replace E := E.gt g75 rfl
  have k60 := k60.gt g75
  have hO := hO.gt g75 rfl
  refine Zb (kq (Zg (?_)))
  have hO := hO.sub (Y := [b3, b4, b5, b6]) (by intro j hj; simp at hj ⊢; omega)
  refine Zx Zi J (Yg Zh J (E.g3.at_ J) (Yk Zc J J E.g0.row (Yb _ J Zf Zm (pqc J pq0) J J ?_)))
  intro b79 w79 N79
  have l79 := Xm N79 g.size
  have hO := hO.new N79
  have k60 := k60.new N79
  have g := gtg g N79.g
  have h := h.grow (N79.g)
  replace E := E.new N79
  have hOo := hO
  refine Ur J Zf Zm J (Zk J) hO (Zk J) J E.g0.row (Zra (t := .mk (Zd (Zd t 0) i).kind (Zd (Zd t 0) i).text (declN (parA F (Zd t 0) (funS0 S) i).2) (Zd (Zd t 0) i).pos ((Zd (Zd t 0) i).kids.map plainT) ty0 1 0) k60 q60 (by intro j hj; simp at hj ⊢; omega) (fun j hj => .inr (hOlt j hj))) (by simp; omega) (by have := g.size; omega) ⟨by have := g.size; omega, by have q3 := E.g7.lt; have q4 := E.g6.lt; have q5 := E.g5.lt; have q6 := E.g4.lt; have q79 := E.g0.lt; simp; omega⟩ ?_
  intro a80 c80 w80 hO hg80
  replace E := E.sel [true, false, false, false, true, true, true, true]
  replace E := E.keepX hg80 hOo.ne (by simp [selB])
  have g := Qj g hg80 (fun k hk => hOo.ge k hk)
  have h := h.keepO hg80 hOo (by omega)
  refine Zx Zi J (Vz Xb J J J E.g1 ?_)
  intro wS12 hgS12 _ BS
  have C6 := E.g1
  replace E := E.s1 hgS12 BS
  have g := Zy g hgS12 (by omega)
  have h := h.keep hgS12 C6 rfl (by omega)
  first | have hO := hO.keept hgS12 C6 rfl | have hO := hO.keep hgS12 (by simp)
  refine Zb (kq (Zg (Zt J (Qv J J (by omega) (Zp J (Wh [(7, _, _), (0, _, _), (3, _, _), (4, _, _), (5, _, _), (6, _, _)] (Za J (Za J (Za J (Za J (Za J (Za J (Zj _))))))) (Zb (fun a ha => ?_))))))))
  have hO := hO.sub (Y := [b3, b4, b5, b6]) (by intro j hj; simp at hj ⊢; omega)
  exact ⟨i + 1, ha, ⟨⟨h1, h, _, E.g1, hO⟩, g⟩, (Xr (blkE E.g4) (Xr (blkE E.g3) (Xr (blkE E.g2) (Ua _)))), by omega⟩
 replace h1 : i = (Zd t 0).kids.length := by simp only [decide_eq_false_iff_not] at h1; omega
 subst h1
 refine Vq J (kq (Ze (Zg (?_))))
 obtain ⟨fv, sv, sn, h⟩ := h
 refine Zt J (Uc Yq Xv pq0 J J (Ui J (Zx Vi J (Ww J Yn (Zk J) (Zk J) J J h.B J J ?_))))
 intro wE hgE hzE BE
 replace E := E.keepT hgE (h.B) rfl
 have g := Yja g hgE h.B rfl h.hb
 have hcq := Ys hcq hgE (by have := h.hb; omega)
 have hc1 := Ys hc1 hgE (by have := h.hb; omega)
 have hc2 := Ys hc2 hgE (by have := h.hb; omega)
 have hk1 := hk1.keep hgE (fun k hk _ e => by injection e with e; have := h.hb; omega)
 have hk2 := hk2.keep hgE (fun k hk _ e => by injection e with e; have := h.hb; omega)
 have hO := hO.keept hgE h.B rfl
 have h := h.set (S' := funS1 F t S) hgE BE rfl rfl
 refine Zb (kq (Ze (Ze (Zg (Zx Zi J (Yg Zh J (E.g3.at_ J) (Ve Zf J J (by omega) e0 (Zx Yd J (Yg Zu J (hc1.one (i := 0) J) (Wja J J (Zb (kq (Yv J (fun h2 => ?_) (fun h2 => ?_))))))))))))))
 ·replace h2 : decide ((Zd t 1).kind = 9) = false := by simpa using h2
  have eS : { localS F (Zd t 1) (funS1 F t S) with result := (ofF (Zd t 1)).1 } = funS2 F t S := by unfold funS2; rw [h2]; rfl
  refine Zg (Zt J (Zt J (Zx Zi J (Yg Zh J (E.g3.at_ J) (Ve Zf J J (by omega) e0 (Yk Zc J J hc1 (Ya J (Zo Yza Yo (aqc J (aqc J aq0)) J) (Zvc (Zd t 1) _ _ h.chk) ?_)))))))
  rintro v98 w98 ⟨rfl, hT, g98⟩
  refine ⟨nw1, ?_⟩
  have g := g.trans g98
  replace E := E.gt g98 rfl
  have hcq := hcq.gt g98 hDp
  have hc1 := hc1.gt g98 hDp
  have hc2 := hc2.gt g98 hDp
  have hk1 := hk1.gt g98 (fun k h => h)
  have hk2 := hk2.gt g98 (fun k h => h)
  have hO := hO.gt g98 rfl
  obtain ⟨fv, sv, sn, h⟩ := hT
  refine Ui J (Zx Vi J (Ww J Yn (Zk J) (Zk J) J J h.B J J ?_))
  intro wG hgG hzG BG
  replace E := E.keepT hgG (h.B) rfl
  have g := Yja g hgG h.B rfl h.hb
  have hcq := Ys hcq hgG (by have := h.hb; omega)
  have hc1 := Ys hc1 hgG (by have := h.hb; omega)
  have hc2 := Ys hc2 hgG (by have := h.hb; omega)
  have hk1 := hk1.keep hgG (fun k hk _ e => by injection e with e; have := h.hb; omega)
  have hk2 := hk2.keep hgG (fun k hk _ e => by injection e with e; have := h.hb; omega)
  have hO := hO.keept hgG h.B rfl
  have h := h.set (S' := { localS F (Zd t 1) (funS1 F t S) with result := (ofF (Zd t 1)).1 }) hgG BG rfl rfl
  rw [eS] at h
  have h := h.chk
  refine Zb (kq (Ze (Zg (Zt J (Zx Zi J (Yg Zh J (E.g3.at_ J) (Ve Zf J J (by omega) e0 (Yk Zc J J hc2 (Ya J (Zo Qz Yo (aqc J (aqc J aq0)) J) (CkC.to hs2 [b3, b4, b5, b6] h hk2 hbd2 (by omega) (E.ltm (by simp [selB])) g.size) ?_)))))))))
  rintro v106 w106 ⟨⟨p106, c106, rfl, q106, k106⟩, h, g106⟩
  refine ⟨nw1, ?_⟩
  have g := g.trans g106
  replace E := E.gt g106 rfl
  have hcq := hcq.gt g106 hDp
  have hc1 := hc1.gt g106 hDp
  have hc2 := hc2.gt g106 hDp
  have hk1 := hk1.gt g106 (fun k h => h)
  have hk2 := hk2.gt g106 (fun k h => h)
  have hO := hO.gt g106 rfl
  refine Yh J Zm J ?_
  intro b12 w12 N12
  have l12 := Xm N12 g.size
  have hO := hO.new N12
  have k106 := k106.new N12
  have g := gtg g N12.g
  have h := h.grow (N12.g)
  have hcq := hcq.grow (N12.g)
  have hc1 := hc1.grow (N12.g)
  have hc2 := hc2.grow (N12.g)
  have hk1 := hk1.grow (N12.g)
  have hk2 := hk2.grow (N12.g)
  replace E := E.new N12
  refine Yt Zl J J J E.g0 ?_
  intro wS15 hgS15 _ BS
  have C12 := E.g0
  replace E := E.s0 hgS15 BS
  have g := Zy g hgS15 (by omega)
  have h := h.keep hgS15 C12 rfl (by omega)
  have hcq := Ys hcq hgS15 (by omega)
  have hc1 := Ys hc1 hgS15 (by omega)
  have hc2 := Ys hc2 hgS15 (by omega)
  have hk1 := hk1.keep hgS15 (fun k hk _ e => by injection e with e; omega)
  have hk2 := hk2.keep hgS15 (fun k hk _ e => by injection e with e; omega)
  have k106 := k106.keep hgS15 (by simp)
  first | have hO := hO.keept hgS15 C12 rfl | have hO := hO.keep hgS15 (by simp)
  refine Zb (kq (Ze (Ze (Zg (Zx Zi J (Yg Zh J (E.g4.at_ J) (Ve Zf J J (by omega) e0 (Zx Yd J (Yg Zu J (hc1.one (i := 0) J) (Wja J J (Zt J (Zn J J J (fun _ => Zv Zi (Zk J)) (Yj J J J (Ye Zh (Zq J id) (fun _ => E.g4.at_ J)) (Zn J J J (fun _ => Wj Zf (Zq J id) Xy (fun _ => by omega) (fun _ => e0)) (Zn J J J (fun _ => Zv Zi (Zq J id)) (Yj J J J (Ye Zh (Zq J id) (fun _ => hc2.one (i := 4) J)) (?_)))))))))))))))))
  refine We J J J (fun _ => (Zo Wda Yo (Xf (Zq J id) (Xw)) J)) (fun hc => Qsd 1000001 _ _ _ _ hk2 (sh10 hb2) (by have := Vbb (Zd t 2); omega) (Nat.le_refl _)) (fun w119 g119 => ?_)
  have g := gtg g g119
  replace E := E.grow g119
  have h := h.grow (g119)
  have hcq := hcq.grow (g119)
  have hc1 := hc1.grow (g119)
  have hc2 := hc2.grow (g119)
  have hk1 := hk1.grow (g119)
  have k106 := k106.grow (g119)
  have hO := hO.grow (g119)
  refine Zn J J J (fun _ => Xqa (Zq J id)) (Yi J (fun _ => Zz (Zk J) (Zq J id)) (Zb (kq (Yv J (fun h3 => ?_) (fun h3 => ?_)))))
  ·have e3 : (decide ((Zd t 1).kind = 9) || endsL (Zd t 2).kids) = false := by revert h3; cases decide ((Zd t 1).kind = 9) <;> cases endsL (Zd t 2).kids <;> decide
   refine Zg (Zt J (Zx Yw J (Yg Zu J (E.g4.at_ J) (Ya J (Zo Yz Yo (aqc J (aqc J (aqc J aq0))) J) (Vj t.pos 7 h) ?_))))
   rintro v125 w125 ⟨rfl, h, g125⟩
   refine ⟨nw1, ?_⟩
   have g := g.trans g125
   replace E := E.gt g125 rfl
   have hcq := hcq.gt g125 hDp
   have hc1 := hc1.gt g125 hDp
   have hc2 := hc2.gt g125 hDp
   have hk1 := hk1.gt g125 (fun k h => h)
   have k106 := k106.gt g125
   have hO := hO.gt g125 rfl
   refine Zb (kq (Ze (?_)))
   skip
   refine Wr [0, 3, 0, 3, 0, 1, 0, 1, 3, 2] [true, true, true, true, true, true, false, true, true, true] [0, 0, 2, 6, 14, 30, 0, 127, 255, 511] mix (by kernel_rfl) ?_
   have g := gtd g
   replace E := E.dr
   have h := h.grow (G.drew _)
   have hcq := hcq.grow (G.drew _)
   have hc1 := hc1.grow (G.drew _)
   have hc2 := hc2.grow (G.drew _)
   have hk1 := hk1.grow (G.drew _)
   have k106 := k106.grow (G.drew _)
   have hO := hO.grow (G.drew _)
   have EC := E
   refine Yk Zc J J E.g1.row (Zx Zi J (Yg Zh J (E.g4.at_ J) (Ve Zf J J (by omega) e0 (Yk Zc J J hc1 (Ya J (Zo Jz Yo (aqc J aq0) J) (Xna (Zd t 1) [b3, b4, b5, b6, b12] hk1 (by omega) (E.ltm (by simp [selB])) g.size) ?_)))))
   rintro v131 w131 ⟨⟨p131, c131, rfl, q131, k131⟩, g131⟩
   refine ⟨fun _ => g131, ?_⟩
   have g := gtg g g131
   replace E := E.grow g131
   have h := h.grow (g131)
   have hcq := hcq.grow (g131)
   have hc1 := hc1.grow (g131)
   have hc2 := hc2.grow (g131)
   have k106 := k106.grow (g131)
   have hO := hO.grow (g131)
   refine Vua J (Xd Zc (Zk J) J (fun _ => EC.g0.row)) (Yb _ J Zf Zm (pqc J (pqc J (pqc J pq0))) J J ?_)
   intro b133 w133 N133
   have l133 := Xm N133 g.size
   have hO := hO.new N133
   have k106 := k106.new N133
   have k131 := k131.new N133
   have g := gtg g N133.g
   have h := h.grow (N133.g)
   have hcq := hcq.grow (N133.g)
   have hc1 := hc1.grow (N133.g)
   have hc2 := hc2.grow (N133.g)
   replace E := E.new N133
   refine Zx Zi J (Vz Xb J J J E.g3 ?_)
   intro wS16 hgS16 _ BS
   have C5 := E.g3
   replace E := E.s3 hgS16 BS
   have g := Zy g hgS16 (by omega)
   have h := h.keep hgS16 C5 rfl (by omega)
   have hcq := Ys hcq hgS16 (by omega)
   have hc1 := Ys hc1 hgS16 (by omega)
   have hc2 := Ys hc2 hgS16 (by omega)
   have k106 := k106.keep hgS16 (by simp)
   have k131 := k131.keep hgS16 (by simp)
   first | have hO := hO.keept hgS16 C5 rfl | have hO := hO.keep hgS16 (by simp)
   refine Zb (kq (Ze (Zg (Yk Zc J J E.g3.row (Yt Zl J J J E.g4 ?_)))))
   intro wS17 hgS17 _ BS
   have C4 := E.g4
   replace E := E.s4 hgS17 BS
   have g := Zy g hgS17 (by omega)
   have h := h.keep hgS17 C4 rfl (by omega)
   have hcq := Ys hcq hgS17 (by omega)
   have hc1 := Ys hc1 hgS17 (by omega)
   have hc2 := Ys hc2 hgS17 (by omega)
   have k106 := k106.keep hgS17 (by simp)
   have k131 := k131.keep hgS17 (by simp)
   first | have hO := hO.keept hgS17 C4 rfl | have hO := hO.keep hgS17 (by simp)
   refine Zb (kq (Zr (Xj J (Yy J Zc J (E.g4.row) (Yf)) ?_)))
   have e : funR F t S = (annT t [annT (Zd t 0) (parA F (Zd t 0) (funS0 S) (Zd t 0).kids.length).1 ty0, plainT (Zd t 1), ((ckT F (Zd t 2)).sts (funS2 F t S)).1] ty0, failU (decide ((Zd t 1).kind = 9) || endsL (Zd t 2).kids) t.pos 7 ((ckT F (Zd t 2)).sts (funS2 F t S)).2) := rfl
   rw [e, e3]
   exact ⟨Xz (t := annT t [annT (Zd t 0) (parA F (Zd t 0) (funS0 S) (Zd t 0).kids.length).1 ty0, plainT (Zd t 1), _] ty0) rfl (Uk (ks := [annT (Zd t 0) (parA F (Zd t 0) (funS0 S) (Zd t 0).kids.length).1 ty0, plainT (Zd t 1), _]) ⟨l133, Ug E.g0⟩ E.g0.row (Uh hO.kd (Uh (k131.kdN q131) (Wp (k106.kdN q106)))) (Nat.le_refl _)), h, g⟩
  have e3 : (decide ((Zd t 1).kind = 9) || endsL (Zd t 2).kids) = true := by revert h3; cases decide ((Zd t 1).kind = 9) <;> cases endsL (Zd t 2).kids <;> decide
  refine Yc (kq (Ze (?_)))
  skip
  refine Wr [0, 3, 0, 3, 0, 1, 0, 1, 3, 2] [true, true, true, true, true, true, false, true, true, true] [0, 0, 2, 6, 14, 30, 0, 127, 255, 511] mix (by kernel_rfl) ?_
  have g := gtd g
  replace E := E.dr
  have h := h.grow (G.drew _)
  have hcq := hcq.grow (G.drew _)
  have hc1 := hc1.grow (G.drew _)
  have hc2 := hc2.grow (G.drew _)
  have hk1 := hk1.grow (G.drew _)
  have k106 := k106.grow (G.drew _)
  have hO := hO.grow (G.drew _)
  have EC := E
  refine Yk Zc J J E.g1.row (Zx Zi J (Yg Zh J (E.g4.at_ J) (Ve Zf J J (by omega) e0 (Yk Zc J J hc1 (Ya J (Zo Jz Yo (aqc J aq0) J) (Xna (Zd t 1) [b3, b4, b5, b6, b12] hk1 (by omega) (E.ltm (by simp [selB])) g.size) ?_)))))
  rintro v131 w131 ⟨⟨p131, c131, rfl, q131, k131⟩, g131⟩
  refine ⟨fun _ => g131, ?_⟩
  have g := gtg g g131
  replace E := E.grow g131
  have h := h.grow (g131)
  have hcq := hcq.grow (g131)
  have hc1 := hc1.grow (g131)
  have hc2 := hc2.grow (g131)
  have k106 := k106.grow (g131)
  have hO := hO.grow (g131)
  refine Vua J (Xd Zc (Zk J) J (fun _ => EC.g0.row)) (Yb _ J Zf Zm (pqc J (pqc J (pqc J pq0))) J J ?_)
  intro b133 w133 N133
  have l133 := Xm N133 g.size
  have hO := hO.new N133
  have k106 := k106.new N133
  have k131 := k131.new N133
  have g := gtg g N133.g
  have h := h.grow (N133.g)
  have hcq := hcq.grow (N133.g)
  have hc1 := hc1.grow (N133.g)
  have hc2 := hc2.grow (N133.g)
  replace E := E.new N133
  refine Zx Zi J (Vz Xb J J J E.g3 ?_)
  intro wS18 hgS18 _ BS
  have C5 := E.g3
  replace E := E.s3 hgS18 BS
  have g := Zy g hgS18 (by omega)
  have h := h.keep hgS18 C5 rfl (by omega)
  have hcq := Ys hcq hgS18 (by omega)
  have hc1 := Ys hc1 hgS18 (by omega)
  have hc2 := Ys hc2 hgS18 (by omega)
  have k106 := k106.keep hgS18 (by simp)
  have k131 := k131.keep hgS18 (by simp)
  first | have hO := hO.keept hgS18 C5 rfl | have hO := hO.keep hgS18 (by simp)
  refine Zb (kq (Ze (Zg (Yk Zc J J E.g3.row (Yt Zl J J J E.g4 ?_)))))
  intro wS19 hgS19 _ BS
  have C4 := E.g4
  replace E := E.s4 hgS19 BS
  have g := Zy g hgS19 (by omega)
  have h := h.keep hgS19 C4 rfl (by omega)
  have hcq := Ys hcq hgS19 (by omega)
  have hc1 := Ys hc1 hgS19 (by omega)
  have hc2 := Ys hc2 hgS19 (by omega)
  have k106 := k106.keep hgS19 (by simp)
  have k131 := k131.keep hgS19 (by simp)
  first | have hO := hO.keept hgS19 C4 rfl | have hO := hO.keep hgS19 (by simp)
  refine Zb (kq (Zr (Xj J (Yy J Zc J (E.g4.row) (Yf)) ?_)))
  have e : funR F t S = (annT t [annT (Zd t 0) (parA F (Zd t 0) (funS0 S) (Zd t 0).kids.length).1 ty0, plainT (Zd t 1), ((ckT F (Zd t 2)).sts (funS2 F t S)).1] ty0, failU (decide ((Zd t 1).kind = 9) || endsL (Zd t 2).kids) t.pos 7 ((ckT F (Zd t 2)).sts (funS2 F t S)).2) := rfl
  rw [e, e3]
  exact ⟨Xz (t := annT t [annT (Zd t 0) (parA F (Zd t 0) (funS0 S) (Zd t 0).kids.length).1 ty0, plainT (Zd t 1), _] ty0) rfl (Uk (ks := [annT (Zd t 0) (parA F (Zd t 0) (funS0 S) (Zd t 0).kids.length).1 ty0, plainT (Zd t 1), _]) ⟨l133, Ug E.g0⟩ E.g0.row (Uh hO.kd (Uh (k131.kdN q131) (Wp (k106.kdN q106)))) (Nat.le_refl _)), h, g⟩
 replace h2 : decide ((Zd t 1).kind = 9) = true := by simpa using h2
 have eS : funS1 F t S = funS2 F t S := by unfold funS2; rw [h2]; rfl
 rw [eS] at h
 have h := h.chk
 refine Yc (kq (Ze (Zg (Zt J (Zx Zi J (Yg Zh J (E.g3.at_ J) (Ve Zf J J (by omega) e0 (Yk Zc J J hc2 (Ya J (Zo Qz Yo (aqc J (aqc J aq0)) J) (CkC.to hs2 [b3, b4, b5, b6] h hk2 hbd2 (by omega) (E.ltm (by simp [selB])) g.size) ?_)))))))))
 rintro v106 w106 ⟨⟨p106, c106, rfl, q106, k106⟩, h, g106⟩
 refine ⟨nw1, ?_⟩
 have g := g.trans g106
 replace E := E.gt g106 rfl
 have hcq := hcq.gt g106 hDp
 have hc1 := hc1.gt g106 hDp
 have hc2 := hc2.gt g106 hDp
 have hk1 := hk1.gt g106 (fun k h => h)
 have hk2 := hk2.gt g106 (fun k h => h)
 have hO := hO.gt g106 rfl
 refine Yh J Zm J ?_
 intro b12 w12 N12
 have l12 := Xm N12 g.size
 have hO := hO.new N12
 have k106 := k106.new N12
 have g := gtg g N12.g
 have h := h.grow (N12.g)
 have hcq := hcq.grow (N12.g)
 have hc1 := hc1.grow (N12.g)
 have hc2 := hc2.grow (N12.g)
 have hk1 := hk1.grow (N12.g)
 have hk2 := hk2.grow (N12.g)
 replace E := E.new N12
 refine Yt Zl J J J E.g0 ?_
 intro wS20 hgS20 _ BS
 have C12 := E.g0
 replace E := E.s0 hgS20 BS
 have g := Zy g hgS20 (by omega)
 have h := h.keep hgS20 C12 rfl (by omega)
 have hcq := Ys hcq hgS20 (by omega)
 have hc1 := Ys hc1 hgS20 (by omega)
 have hc2 := Ys hc2 hgS20 (by omega)
 have hk1 := hk1.keep hgS20 (fun k hk _ e => by injection e with e; omega)
 have hk2 := hk2.keep hgS20 (fun k hk _ e => by injection e with e; omega)
 have k106 := k106.keep hgS20 (by simp)
 first | have hO := hO.keept hgS20 C12 rfl | have hO := hO.keep hgS20 (by simp)
 refine Zb (kq (Ze (Ze (Zg (Zx Zi J (Yg Zh J (E.g4.at_ J) (Ve Zf J J (by omega) e0 (Zx Yd J (Yg Zu J (hc1.one (i := 0) J) (Wja J J (Zt J (Zn J J J (fun _ => Zv Zi (Zk J)) (Yj J J J (Ye Zh (Zq J id) (fun _ => E.g4.at_ J)) (Zn J J J (fun _ => Wj Zf (Zq J id) Xy (fun _ => by omega) (fun _ => e0)) (Zn J J J (fun _ => Zv Zi (Zq J id)) (Yj J J J (Ye Zh (Zq J id) (fun _ => hc2.one (i := 4) J)) (?_)))))))))))))))))
 refine We J J J (fun _ => (Zo Wda Yo (Xf (Zq J id) (Xw)) J)) (fun hc => Qsd 1000001 _ _ _ _ hk2 (sh10 hb2) (by have := Vbb (Zd t 2); omega) (Nat.le_refl _)) (fun w119 g119 => ?_)
 have g := gtg g g119
 replace E := E.grow g119
 have h := h.grow (g119)
 have hcq := hcq.grow (g119)
 have hc1 := hc1.grow (g119)
 have hc2 := hc2.grow (g119)
 have hk1 := hk1.grow (g119)
 have k106 := k106.grow (g119)
 have hO := hO.grow (g119)
 refine Zn J J J (fun _ => Xqa (Zq J id)) (Yi J (fun _ => Zz (Zk J) (Zq J id)) (Zb (kq (Yv J (fun h4 => ?_) (fun h4 => ?_)))))
 ·have e3 : (decide ((Zd t 1).kind = 9) || endsL (Zd t 2).kids) = false := by revert h4; cases decide ((Zd t 1).kind = 9) <;> cases endsL (Zd t 2).kids <;> decide
  refine Zg (Zt J (Zx Yw J (Yg Zu J (E.g4.at_ J) (Ya J (Zo Yz Yo (aqc J (aqc J (aqc J aq0))) J) (Vj t.pos 7 h) ?_))))
  rintro v125 w125 ⟨rfl, h, g125⟩
  refine ⟨nw1, ?_⟩
  have g := g.trans g125
  replace E := E.gt g125 rfl
  have hcq := hcq.gt g125 hDp
  have hc1 := hc1.gt g125 hDp
  have hc2 := hc2.gt g125 hDp
  have hk1 := hk1.gt g125 (fun k h => h)
  have k106 := k106.gt g125
  have hO := hO.gt g125 rfl
  refine Zb (kq (Ze (?_)))
  skip
  refine Wr [0, 3, 0, 3, 0, 1, 0, 1, 3, 2] [true, true, true, true, true, true, false, true, true, true] [0, 0, 2, 6, 14, 30, 0, 127, 255, 511] mix (by kernel_rfl) ?_
  have g := gtd g
  replace E := E.dr
  have h := h.grow (G.drew _)
  have hcq := hcq.grow (G.drew _)
  have hc1 := hc1.grow (G.drew _)
  have hc2 := hc2.grow (G.drew _)
  have hk1 := hk1.grow (G.drew _)
  have k106 := k106.grow (G.drew _)
  have hO := hO.grow (G.drew _)
  have EC := E
  refine Yk Zc J J E.g1.row (Zx Zi J (Yg Zh J (E.g4.at_ J) (Ve Zf J J (by omega) e0 (Yk Zc J J hc1 (Ya J (Zo Jz Yo (aqc J aq0) J) (Xna (Zd t 1) [b3, b4, b5, b6, b12] hk1 (by omega) (E.ltm (by simp [selB])) g.size) ?_)))))
  rintro v131 w131 ⟨⟨p131, c131, rfl, q131, k131⟩, g131⟩
  refine ⟨fun _ => g131, ?_⟩
  have g := gtg g g131
  replace E := E.grow g131
  have h := h.grow (g131)
  have hcq := hcq.grow (g131)
  have hc1 := hc1.grow (g131)
  have hc2 := hc2.grow (g131)
  have k106 := k106.grow (g131)
  have hO := hO.grow (g131)
  refine Vua J (Xd Zc (Zk J) J (fun _ => EC.g0.row)) (Yb _ J Zf Zm (pqc J (pqc J (pqc J pq0))) J J ?_)
  intro b133 w133 N133
  have l133 := Xm N133 g.size
  have hO := hO.new N133
  have k106 := k106.new N133
  have k131 := k131.new N133
  have g := gtg g N133.g
  have h := h.grow (N133.g)
  have hcq := hcq.grow (N133.g)
  have hc1 := hc1.grow (N133.g)
  have hc2 := hc2.grow (N133.g)
  replace E := E.new N133
  refine Zx Zi J (Vz Xb J J J E.g3 ?_)
  intro wS21 hgS21 _ BS
  have C5 := E.g3
  replace E := E.s3 hgS21 BS
  have g := Zy g hgS21 (by omega)
  have h := h.keep hgS21 C5 rfl (by omega)
  have hcq := Ys hcq hgS21 (by omega)
  have hc1 := Ys hc1 hgS21 (by omega)
  have hc2 := Ys hc2 hgS21 (by omega)
  have k106 := k106.keep hgS21 (by simp)
  have k131 := k131.keep hgS21 (by simp)
  first | have hO := hO.keept hgS21 C5 rfl | have hO := hO.keep hgS21 (by simp)
  refine Zb (kq (Ze (Zg (Yk Zc J J E.g3.row (Yt Zl J J J E.g4 ?_)))))
  intro wS22 hgS22 _ BS
  have C4 := E.g4
  replace E := E.s4 hgS22 BS
  have g := Zy g hgS22 (by omega)
  have h := h.keep hgS22 C4 rfl (by omega)
  have hcq := Ys hcq hgS22 (by omega)
  have hc1 := Ys hc1 hgS22 (by omega)
  have hc2 := Ys hc2 hgS22 (by omega)
  have k106 := k106.keep hgS22 (by simp)
  have k131 := k131.keep hgS22 (by simp)
  first | have hO := hO.keept hgS22 C4 rfl | have hO := hO.keep hgS22 (by simp)
  refine Zb (kq (Zr (Xj J (Yy J Zc J (E.g4.row) (Yf)) ?_)))
  have e : funR F t S = (annT t [annT (Zd t 0) (parA F (Zd t 0) (funS0 S) (Zd t 0).kids.length).1 ty0, plainT (Zd t 1), ((ckT F (Zd t 2)).sts (funS2 F t S)).1] ty0, failU (decide ((Zd t 1).kind = 9) || endsL (Zd t 2).kids) t.pos 7 ((ckT F (Zd t 2)).sts (funS2 F t S)).2) := rfl
  rw [e, e3]
  exact ⟨Xz (t := annT t [annT (Zd t 0) (parA F (Zd t 0) (funS0 S) (Zd t 0).kids.length).1 ty0, plainT (Zd t 1), _] ty0) rfl (Uk (ks := [annT (Zd t 0) (parA F (Zd t 0) (funS0 S) (Zd t 0).kids.length).1 ty0, plainT (Zd t 1), _]) ⟨l133, Ug E.g0⟩ E.g0.row (Uh hO.kd (Uh (k131.kdN q131) (Wp (k106.kdN q106)))) (Nat.le_refl _)), h, g⟩
 have e3 : (decide ((Zd t 1).kind = 9) || endsL (Zd t 2).kids) = true := by revert h4; cases decide ((Zd t 1).kind = 9) <;> cases endsL (Zd t 2).kids <;> decide
 refine Yc (kq (Ze (?_)))
 skip
 refine Wr [0, 3, 0, 3, 0, 1, 0, 1, 3, 2] [true, true, true, true, true, true, false, true, true, true] [0, 0, 2, 6, 14, 30, 0, 127, 255, 511] mix (by kernel_rfl) ?_
 have g := gtd g
 replace E := E.dr
 have h := h.grow (G.drew _)
 have hcq := hcq.grow (G.drew _)
 have hc1 := hc1.grow (G.drew _)
 have hc2 := hc2.grow (G.drew _)
 have hk1 := hk1.grow (G.drew _)
 have k106 := k106.grow (G.drew _)
 have hO := hO.grow (G.drew _)
 have EC := E
 refine Yk Zc J J E.g1.row (Zx Zi J (Yg Zh J (E.g4.at_ J) (Ve Zf J J (by omega) e0 (Yk Zc J J hc1 (Ya J (Zo Jz Yo (aqc J aq0) J) (Xna (Zd t 1) [b3, b4, b5, b6, b12] hk1 (by omega) (E.ltm (by simp [selB])) g.size) ?_)))))
 rintro v131 w131 ⟨⟨p131, c131, rfl, q131, k131⟩, g131⟩
 refine ⟨fun _ => g131, ?_⟩
 have g := gtg g g131
 replace E := E.grow g131
 have h := h.grow (g131)
 have hcq := hcq.grow (g131)
 have hc1 := hc1.grow (g131)
 have hc2 := hc2.grow (g131)
 have k106 := k106.grow (g131)
 have hO := hO.grow (g131)
 refine Vua J (Xd Zc (Zk J) J (fun _ => EC.g0.row)) (Yb _ J Zf Zm (pqc J (pqc J (pqc J pq0))) J J ?_)
 intro b133 w133 N133
 have l133 := Xm N133 g.size
 have hO := hO.new N133
 have k106 := k106.new N133
 have k131 := k131.new N133
 have g := gtg g N133.g
 have h := h.grow (N133.g)
 have hcq := hcq.grow (N133.g)
 have hc1 := hc1.grow (N133.g)
 have hc2 := hc2.grow (N133.g)
 replace E := E.new N133
 refine Zx Zi J (Vz Xb J J J E.g3 ?_)
 intro wS23 hgS23 _ BS
 have C5 := E.g3
 replace E := E.s3 hgS23 BS
 have g := Zy g hgS23 (by omega)
 have h := h.keep hgS23 C5 rfl (by omega)
 have hcq := Ys hcq hgS23 (by omega)
 have hc1 := Ys hc1 hgS23 (by omega)
 have hc2 := Ys hc2 hgS23 (by omega)
 have k106 := k106.keep hgS23 (by simp)
 have k131 := k131.keep hgS23 (by simp)
 first | have hO := hO.keept hgS23 C5 rfl | have hO := hO.keep hgS23 (by simp)
 refine Zb (kq (Ze (Zg (Yk Zc J J E.g3.row (Yt Zl J J J E.g4 ?_)))))
 intro wS24 hgS24 _ BS
 have C4 := E.g4
 replace E := E.s4 hgS24 BS
 have g := Zy g hgS24 (by omega)
 have h := h.keep hgS24 C4 rfl (by omega)
 have hcq := Ys hcq hgS24 (by omega)
 have hc1 := Ys hc1 hgS24 (by omega)
 have hc2 := Ys hc2 hgS24 (by omega)
 have k106 := k106.keep hgS24 (by simp)
 have k131 := k131.keep hgS24 (by simp)
 first | have hO := hO.keept hgS24 C4 rfl | have hO := hO.keep hgS24 (by simp)
 refine Zb (kq (Zr (Xj J (Yy J Zc J (E.g4.row) (Yf)) ?_)))
 have e : funR F t S = (annT t [annT (Zd t 0) (parA F (Zd t 0) (funS0 S) (Zd t 0).kids.length).1 ty0, plainT (Zd t 1), ((ckT F (Zd t 2)).sts (funS2 F t S)).1] ty0, failU (decide ((Zd t 1).kind = 9) || endsL (Zd t 2).kids) t.pos 7 ((ckT F (Zd t 2)).sts (funS2 F t S)).2) := rfl
 rw [e, e3]
 exact ⟨Xz (t := annT t [annT (Zd t 0) (parA F (Zd t 0) (funS0 S) (Zd t 0).kids.length).1 ty0, plainT (Zd t 1), _] ty0) rfl (Uk (ks := [annT (Zd t 0) (parA F (Zd t 0) (funS0 S) (Zd t 0).kids.length).1 ty0, plainT (Zd t 1), _]) ⟨l133, Ug E.g0⟩ E.g0.row (Uh hO.kd (Uh (k131.kdN q131) (Wp (k106.kdN q106)))) (Nat.le_refl _)), h, g⟩
set_option maxHeartbeats 4000000
theorem Qic {F : Nd} (h : validB F = true) : F.kind = 1 ∧ permF F = true := by
 unfold validB at h
 simp only [Bool.and_eq_true] at h
 unfold permB at h
 simp only [Bool.and_eq_true, decide_eq_true_eq] at h
 first | exact ⟨h.1.1, h.1.2⟩ | exact ⟨h.1.2, h.1.1⟩ | exact ⟨h.2.1, h.2.2⟩ | exact ⟨h.1, h.2.1⟩ | exact ⟨h.1, h.2.2⟩
theorem Qvd {F : Nd} (h1 : F.kind = 1) (hp : permF F = true) : ∀ d ∈ F.kids, (d.kind = 2 ∨ d.kind = 6 ∨ d.kind = 4) ∧ permF d = true := by
 have hf := Usa hp
 rw [formB, h1] at hf
 have hf : ((!(F.kids.any fileVarB) && everyB F (memK [2, 6, 4])) && F.kids.all permF) = true := hf
 simp only [Bool.and_eq_true, everyB, List.all_eq_true] at hf
 intro d hm
 have := hf.1.2 d hm
 simp only [memK, decide_eq_true_eq, List.mem_cons, List.not_mem_nil, or_false] at this
 exact ⟨this, hf.2 d hm⟩
theorem Zvg {F : Nd} (h : validB F = true) : FSh F := by
 obtain ⟨h1, hp⟩ := Qic h
 have hd := Qvd h1 hp
 refine ⟨fun d hm e => ?_, fun d hm e => ?_, fun d hm e f hf => ?_⟩
 ·have := (pf6 e (hd d hm).2).1; omega
 ·have := (pf4 e (hd d hm).2).1; omega
 ·obtain ⟨_, ⟨h5, hp5⟩, _⟩ := pf4 e (hd d hm).2
  have q := Wha (.inr h5) hp5 f hf
  have := (pf3 q.1 q.2).1; omega
theorem Qwd (F : Nd) (S : CSt) : ∀ i, (dclA F S i).1.length = i
 | 0 => rfl
 | i + 1 => by
  show ((dclA F S i).1 ++ [_]).length = _
  rw [List.length_append, Qwd F S i]; rfl
theorem Xff {F t : Nd} (Z : List Nat) (H : FSh F) (hk4 : t.kind = 4) (hp : permF t = true) {n0 b m0 : Nat} {S : CSt} {w : World} {v : Value} (h : Chk F n0 b S w) (hkw : Kd w (fun k => k < n0) t.kids v) (hcn : count t ≤ 1000000) (hZ : ∀ j ∈ Z, j < w.heap.size) (hm : m0 ≤ w.heap.size) :
  Ret PP Wca #[.pointer (some ⟨b, 0, none⟩), ndV t v] w fun r w' => (∃ p c, r = ndV (funR F t S).1 (.slice p (funR F t S).1.kids.length c) ∧ m0 ≤ w.heap.size ∧ KdX w.heap.size Z w' (funR F t S).1.kids (.slice p (funR F t S).1.kids.length c)) ∧ Chk F n0 b (funR F t S).2 w' ∧ GT mutR n0 w w' :=
 (Uhf H hk4 hp h hkw hcn).mono fun r w' hr => by
  obtain ⟨⟨p, c, e, k⟩, h1, h2⟩ := hr
  exact ⟨⟨p, c, e, hm, KdN.x k hZ⟩, h1, h2⟩
theorem Yed (F : Nd) (v : Value) (D : Nat → Prop) (w : World) (hkD : Kd w D F.kids v) (hcn : count F ≤ 1000000) : Ret PP Yqd #[ndV F v] w fun r w' => (∃ u, r = .tuple #[u, .int .i64 (refCheck F).2.1, .int .i64 (refCheck F).2.2] ∧ RetN (refCheck F).1 w.heap.size u w') ∧ G w w' := by
 obtain ⟨n0, hn0⟩ : ∃ n, n = w.heap.size := ⟨_, rfl⟩
 have hkw : Kd w (fun k => k < n0) F.kids v := Kd.mono hkD fun k _ hlt => by rw [hn0]; exact hlt
 have hk0 := hkw
 obtain ⟨p, c, rfl, _⟩ := id hkw
 have hln := Qt F
 have g := GT.refl mutR n0 w
 refine Yp (m := 139) Wyc J J [(0, True, _)] (Za J (Zj _)) ?_
 refine Ze (Zg (Wq J (Zk J) J ?_))
 intro b1 w1 N1
 have l1 := Xm N1 g.size
 have g := gtg g N1.g
 have hk0 := hk0.grow (N1.g)
 have E := (Wo _).new N1
 refine Yh J Zm J ?_
 intro b2 w2 N2
 have l2 := Xm N2 g.size
 have g := gtg g N2.g
 have hk0 := hk0.grow (N2.g)
 replace E := E.new N2
 refine Zp J (Zp J (Zb (kq (Ze (Ze (Zg (Yk Zc J J E.g1.row (Ya J (Zo Yud Yo (aqc J aq0) J) (Und F _ _ _ hk0 hcn) ?_))))))))
 rintro v15 w15 ⟨rfl, g15⟩
 refine ⟨fun _ => g15, ?_⟩
 have g := gtg g g15
 replace E := E.grow g15
 have hk0 := hk0.grow (g15)
 refine Wia J (Zb (kq (Yv J (fun h1 => ?_) (fun h1 => ?_))))
 ·have hv : validB F = false := by simpa using h1
  refine Ze (Zg (Uc Zm Wl pq0 J J (Yt Zl J J J E.g0 ?_)))
  intro wS1 hgS1 _ BS
  replace E := E.s0 hgS1 BS
  have g := Zy g hgS1 (by omega)
  refine Zp J (Zp J (Zb (kq (Zr (Wb (rs := [.cell 2 26, .tmp 3, .tmp 4]) (vs := [_, _, _]) J J (Yy J Zc J (E.g0.row) (Wg J (Wg J (Yf)))) J ?_)))))
  have er : refCheck F = (nd0, 0, 1) := by unfold refCheck; rw [hv]; rfl
  rw [er]
  exact ⟨⟨_, rfl, Vhb nd0 _ _ rfl⟩, Ued (G.refl w) g (by omega)⟩
 have hv : validB F = true := by simpa using h1
 have H := Zvg hv
 obtain ⟨hF1, hFp⟩ := Qic hv
 have hdc := Qvd hF1 hFp
 refine Yc (kq (Ze (Zg (Yk Zc J J E.g1.row (Uc Xaa Qda (pqc J pq0) J J (Wq J (Zk J) J ?_))))))
 intro b20 w20 N20
 have l20 := Xm N20 g.size
 have B20 := N20.blk
 have x20_1 := N20.ne E.g1
 have x20_2 := N20.ne E.g0
 have g := gtg g N20.g
 replace E := E.grow N20.g
 have hk0 := hk0.grow (N20.g)
 refine Zp J (Zb (kq (Ze (Ze (Zg (?_))))))
 have h : Chk F n0 b20 rs0 _ := (⟨B20, by omega, hk0, hcn, ⟨rfl, .inl ⟨rfl, rfl⟩⟩, ⟨rfl, .inl ⟨rfl, rfl⟩⟩⟩ : CK F n0 b20 rs0 (.slice p F.kids.length c) (.slice none 0 0) (.slice none 0 0) _).chk
 have hlt := l20
 refine Zp J (Zb (kq (Yu (?_))))
 have hnd1 := E.1
 refine Jy (fun (i : Nat) u1 => (i ≤ F.kids.length ∧ Chk F n0 b20 (namA F rs0 i) u1) ∧ GT mutR n0 w u1) _ [(1, True, _), (2, True, _), (3, True, _), (4, True, _), (5, True, _)] (fun (i : Nat) => [(6, True, .int .i64 i)]) (fun (i : Nat) => F.kids.length - i) (0) ⟨⟨Nat.zero_le _, h⟩, g⟩ (Xr (blkE E.g1) (Xr (blkE E.g0) (Ua _))) (Za J (Za J (Za J (Za J (Za J (Za J (Zj _))))))) ?_
 clear E
 rintro i u1 ⟨hI1, gl1⟩ ⟨B1, B2, _⟩
 replace B1 : Blk _ _ _ _ := B1
 replace B2 : Blk _ _ _ _ := B2
 have g := gl1
 obtain ⟨hi, h⟩ := hI1
 have E := Uwa (L := [(b2, _, _), (b1, _, _)]) hnd1 ⟨B2, B1, trivial⟩ rfl
 refine Ze (Ze (Zg (Zt J (Zx Zi J (Yg Zh J (E.g1.at_ J) (Qu Zf J (Zfa J J (Zb (kq (Yv J (fun h2 => ?_) (fun h2 => ?_)))))))))))
 ·replace h2 : i < F.kids.length := by simp only [decide_eq_true_eq] at h2; omega
  refine Yc (kq (Ze (Yu (Ze (Zg (Zp J (Zb (kq (Yu (?_))))))))))
  have hnd2 := E.1
  refine Jy (fun (j : Nat) u2 => (j ≤ i ∧ Chk F n0 b20 (failU (!(F.kids.take j).any (smP F i)) (Zd F i).pos 6 (namA F rs0 i)) u2) ∧ GT mutR n0 w u2) _ [(1, True, _), (2, True, _), (3, True, _), (4, True, _), (5, True, _), (6, True, _)] (fun (j : Nat) => [(7, True, .int .i64 j)]) (fun (j : Nat) => i - j) (0) ⟨⟨Nat.zero_le _, h⟩, g⟩ (Xr (blkE E.g1) (Xr (blkE E.g0) (Ua _))) (Za J (Za J (Za J (Za J (Za J (Za J (Za J (Zj _)))))))) ?_
  clear E
  rintro j u2 ⟨hI2, gl2⟩ ⟨B1, B2, _⟩
  replace B1 : Blk _ _ _ _ := B1
  replace B2 : Blk _ _ _ _ := B2
  have g := gl2
  obtain ⟨hj, h⟩ := hI2
  have hk0 := hkw.gt gl2 (fun k h => h)
  obtain ⟨ei, pi, ci, hci, hki⟩ := Xs hk0 (i := i) h2
  have E := Uwa (L := [(b2, _, _), (b1, _, _)]) hnd2 ⟨B2, B1, trivial⟩ rfl
  refine Ze (Ze (Zg (Zt J (Zt J (Zfa J J (Zb (kq (Yv J (fun h3 => ?_) (fun h3 => ?_)))))))))
  ·replace h3 : j < i := by simp only [decide_eq_true_eq] at h3; omega
   obtain ⟨ej, pj, cj, hcj, hkj⟩ := Xs hk0 (i := j) (by omega)
   have hst := Zwd (show j < F.kids.length by omega) (smP F i)
   rw [← Wm] at hst
   refine Yc (kq (Ze (Yu (Ze (Wr [3, 0, 3, 3, 3, 0, 3, 0, 3, 3, 3, 0, 3] [true, true, true, true, true, true, true, true, true, true, true, true, true] [0, 1, 0, 7, 15, 31, 0, 64, 0, 448, 960, 1984, 4095] mix (by kernel_rfl) ?_)))))
   have g := gtd g
   replace E := E.dr
   have h := h.grow (G.drew _)
   have hk0 := hk0.grow (G.drew _)
   refine Zx Zi J (Yg Zh J (E.g1.at_ J) (Zt J (Ve Zf J J (by omega) ej (Zx Ym J (Yg Yr J ((hcj.grow (G.drew _)).one (i := 1) J) (Zx Zi J (Yg Zh J (E.g1.at_ J) (Zt J (Ve Zf J J (by omega) ei (Zx Ym J (Yg Yr J ((hci.grow (G.drew _)).one (i := 1) J) (Wi J J (Zb (kq (Yv J (fun h4 => ?_) (fun h4 => ?_))))))))))))))))
   ·replace h4 : smP F i (Zd F j) = true := h4
    obtain ⟨ei, pi, ci, hci, hki⟩ := Xs hk0 (i := i) h2
    refine Zg (Zt J (Zx Zi J (Yg Zh J (E.g1.at_ J) (Zt J (Ve Zf J J (by omega) ei (Zx Yw J (Yg Zu J (hci.one (i := 3) J) (Ya J (Zo Yz Yo (aqc J (aqc J (aqc J aq0))) J) (Vj (Zd F i).pos 6 h) ?_))))))))
    rintro v53 w53 ⟨rfl, h, g53⟩
    refine ⟨nw1, ?_⟩
    have g := g.trans g53
    replace E := E.gt g53 rfl
    refine Zb (kq (Zg (Zt J (Qv J J (by omega) (Zp J (Wh [(7, _, _), (1, _, _), (2, _, _), (3, _, _), (4, _, _), (5, _, _), (6, _, _)] (Za J (Za J (Za J (Za J (Za J (Za J (Za J (Zj _)))))))) (Zb (fun a ha => ?_))))))))
    exact ⟨j + 1, ha, ⟨⟨h3, by rw [hst, Wfa (by decide), h4]; exact h⟩, g⟩, (Xr (blkE E.g1) (Xr (blkE E.g0) (Ua _))), by omega⟩
   replace h4 : smP F i (Zd F j) = false := h4
   refine Yc (kq (Zg (Zt J (Qv J J (by omega) (Zp J (Wh [(7, _, _), (1, _, _), (2, _, _), (3, _, _), (4, _, _), (5, _, _), (6, _, _)] (Za J (Za J (Za J (Za J (Za J (Za J (Za J (Zj _)))))))) (Zb (fun a ha => ?_))))))))
   exact ⟨j + 1, ha, ⟨⟨h3, by rw [hst, Wfa (by decide), h4]; exact h⟩, g⟩, (Xr (blkE E.g1) (Xr (blkE E.g0) (Ua _))), by omega⟩
  replace h3 : j = i := by simp only [decide_eq_false_iff_not] at h3; omega
  subst h3
  refine Vq J (kq (Zg (Zt J (Qv J J (by omega) (Zp J (Wh [(6, _, _), (1, _, _), (2, _, _), (3, _, _), (4, _, _), (5, _, _)] (Za J (Za J (Za J (Za J (Za J (Za J (Zj _))))))) (Zb (fun a ha => ?_))))))))
  exact ⟨j + 1, ha, ⟨⟨h2, h⟩, g⟩, (Xr (blkE E.g1) (Xr (blkE E.g0) (Ua _))), by omega⟩
 replace h2 : i = F.kids.length := by simp only [decide_eq_false_iff_not] at h2; omega
 subst h2
 refine Vq J (kq (Ze (Zg (?_))))
 have hk0 := hkw.gt gl1 (fun k h => h)
 refine Yk Zc J J E.g1.row (Ya J (Zo Vg Yo (aqc J aq0) J) (Uw F _ _ _) ?_)
 rintro v55 w55 ⟨rfl, g55⟩
 refine ⟨fun _ => g55, ?_⟩
 have g := gtg g g55
 replace E := E.grow g55
 have h := h.grow (g55)
 have hk0 := hk0.grow (g55)
 refine Yh J Zm J ?_
 intro b8 w8 N8
 have l8 := Xm N8 g.size
 have g := gtg g N8.g
 have h := h.grow (N8.g)
 have hk0 := hk0.grow (N8.g)
 replace E := E.new N8
 refine Yt Zl J J J E.g0 ?_
 intro wS2 hgS2 _ BS
 have C8 := E.g0
 replace E := E.s0 hgS2 BS
 have g := Zy g hgS2 (by omega)
 have h := h.keep hgS2 C8 rfl (by omega)
 have hk0 := hk0.keep hgS2 (fun k hk _ e => by injection e with e; omega)
 refine Zb (kq (Ze (Ze (Zg (Zp J (Zb (kq (Yu (?_)))))))))
 have hnd3 := E.1
 refine Jy (fun (i : Nat) u3 => (i ≤ F.kids.length ∧ Chk F n0 b20 (dclA F (namA F rs0 F.kids.length) i).2 u3 ∧ ∃ s, Blk u3 b8 Vd (ndCells (clnT F) s) ∧ OwnN [b1, b2, b8] w.heap.size u3 (dclA F (namA F rs0 F.kids.length) i).1 s) ∧ GT mutR n0 w u3) _ [(1, True, _), (2, True, _), (3, True, _), (4, True, _), (5, True, _), (8, True, _), (54, True, _), (55, True, _)] (fun (i : Nat) => [(9, True, .int .i64 i)]) (fun (i : Nat) => F.kids.length - i) (0) ⟨⟨Nat.zero_le _, h, _, E.g0, Wlb _ _ _⟩, g⟩ (Xr (blkE E.g2) (Xr (blkE E.g1) (Ua _))) (Za J (Za J (Za J (Za J (Za J (Za J (Za J (Za J (Za J (Zj _)))))))))) ?_
 clear E
 rintro i u3 ⟨hI3, gl3⟩ ⟨B1, B2, _⟩
 replace B1 : Blk _ _ _ _ := B1
 replace B2 : Blk _ _ _ _ := B2
 have g := gl3
 obtain ⟨hi, h, s, B8, hO⟩ := hI3
 obtain ⟨sa, sc, rfl⟩ := hO.slice
 have hk0 := hkw.gt gl3 (fun k h => h)
 have hlen := Qwd F (namA F rs0 F.kids.length) i
 have E := Uwa (L := [(b8, _, _), (b2, _, _), (b1, _, _)]) hnd3 ⟨B8, B2, B1, trivial⟩ rfl
 refine Ze (Ze (Zg (Zt J (Zx Zi J (Yg Zh J (E.g2.at_ J) (Qu Zf J (Zfa J J (Zb (kq (Yv J (fun h5 => ?_) (fun h5 => ?_)))))))))))
 ·replace h5 : i < F.kids.length := by simp only [decide_eq_true_eq] at h5; omega
  obtain ⟨e0, p1, c1, hcell, hkid⟩ := Xs hk0 (i := i) h5
  have hDp : pb p < n0 := Uja hk0 h5
  have hmd : (Zd F i) ∈ F.kids := by rw [Wm h5]; exact List.getElem_mem h5
  obtain ⟨hdk, hdp⟩ := hdc _ hmd
  have hcd := Zqa h5
  have ea : dclA F (namA F rs0 F.kids.length) (i + 1) = ((dclA F (namA F rs0 F.kids.length) i).1 ++ [(dclR F (Zd F i) (dclA F (namA F rs0 F.kids.length) i).2).1], (dclR F (Zd F i) (dclA F (namA F rs0 F.kids.length) i).2).2) := rfl
  refine Yc (kq (Ze (Yu (Ze (Zg (Zx Zi J (Yg Zh J (E.g2.at_ J) (Zt J (Ve Zf J J (by omega) e0 (Yk Zc J J hcell (Yh J Zm J ?_)))))))))))
  intro b10 w10 N10
  have l10 := Xm N10 g.size
  have hO := hO.new N10
  have g := gtg g N10.g
  have h := h.grow (N10.g)
  have hcell := hcell.grow (N10.g)
  have hkid := hkid.grow (N10.g)
  replace E := E.new N10
  refine Yt Zl J J J E.g0 ?_
  intro wS3 hgS3 _ BS
  have C10 := E.g0
  replace E := E.s0 hgS3 BS
  have g := Zy g hgS3 (by omega)
  have h := h.keep hgS3 C10 rfl (by omega)
  have hcell := Ys hcell hgS3 (by omega)
  have hkid := hkid.keep hgS3 (fun k hk _ e => by injection e with e; omega)
  first | have hO := hO.keept hgS3 C10 rfl | have hO := hO.keep hgS3 (by simp)
  refine Zb (kq (Ze (Zg (?_))))
  have hOlt := hO.lt
  refine Yk Zc J J E.g0.row (Ya J (Zo Jz Yo (aqc J aq0) J) (Xna (Zd F i) [b1, b2, b8, b10] hkid (by omega) (E.ltm (by simp [selB])) g.size) ?_)
  rintro v69 w69 ⟨⟨p69, c69, rfl, q69, k69⟩, g69⟩
  refine ⟨fun _ => g69, ?_⟩
  have g := gtg g g69
  replace E := E.grow g69
  have h := h.grow (g69)
  have hcell := hcell.grow (g69)
  have hkid := hkid.grow (g69)
  have hO := hO.grow (g69)
  refine Yh J Zm J ?_
  intro b11 w11 N11
  have l11 := Xm N11 g.size
  have hO := hO.new N11
  have k69 := k69.new N11
  have g := gtg g N11.g
  have h := h.grow (N11.g)
  have hcell := hcell.grow (N11.g)
  have hkid := hkid.grow (N11.g)
  replace E := E.new N11
  refine Yt Zl J J J E.g0 ?_
  intro wS4 hgS4 _ BS
  have C11 := E.g0
  replace E := E.s0 hgS4 BS
  have g := Zy g hgS4 (by omega)
  have h := h.keep hgS4 C11 rfl (by omega)
  have hcell := Ys hcell hgS4 (by omega)
  have hkid := hkid.keep hgS4 (fun k hk _ e => by injection e with e; omega)
  have k69 := k69.keep hgS4 (by simp)
  first | have hO := hO.keept hgS4 C11 rfl | have hO := hO.keep hgS4 (by simp)
  refine Zb (kq (Ze (Ze (Zg (Zx Yd J (Yg Zu J (E.g1.at_ J) (Zb (kq (Yu (Ze (Zg (Xt J J (Zp J (Zb (kq (Yv J (fun h6 => ?_) (fun h6 => ?_)))))))))))))))))
  ·replace h6 : (Zd F i).kind = 2 := of_decide_eq_true h6
   have ed : dclR F (Zd F i) (dclA F (namA F rs0 F.kids.length) i).2 = (plainT (Zd F i), strA F (Zd F i) (dclA F (namA F rs0 F.kids.length) i).2 (Zd F i).kids.length) := by unfold dclR; rw [Yfg h6]; rfl
   refine Zg (Zt J (Yk Zc J J E.g1.row (Ya J (Zo Jea Yo (aqc J (aqc J aq0)) J) (Ybe (fun f hf => by have q := Wha (.inl h6) hdp f hf; have := (pf3 q.1 q.2).1; omega) h hkid (by omega)) ?_)))
   rintro v76 w76 ⟨rfl, h, g76⟩
   refine ⟨nw1, ?_⟩
   have g := g.trans g76
   replace E := E.gt g76 rfl
   have k69 := k69.gt g76
   have hO := hO.gt g76 rfl
   refine Zb (kq (Zg (?_)))
   first | have kzz := k89 | have kzz := k69
   first | have qzz := q89 | have qzz := q69
   have hO := hO.sub (Y := [b1, b2, b8]) (by intro j hj; simp at hj ⊢; omega)
   refine Zx Zi J (Yg Zh J (E.g2.at_ J) (Yk Zc J J E.g0.row (Yb _ J Zf Zm (pqc J pq0) J J ?_)))
   intro b93 w93 N93
   have l93 := Xm N93 g.size
   have hO := hO.new N93
   have kzz := kzz.new N93
   have g := gtg g N93.g
   have h := h.grow (N93.g)
   replace E := E.new N93
   have hOo := hO
   refine Ur J Zf Zm J (Zk J) hO (Zk J) J E.g0.row (Zra kzz qzz (by intro j hj; simp at hj ⊢; omega) (fun j hj => .inr (by have := hOlt j hj; omega))) (by simp; omega) (by have := g.size; omega) ⟨by have := g.size; omega, by have q1 := E.g5.lt; have q2 := E.g4.lt; have q8 := E.g3.lt; have q93 := E.g0.lt; simp; omega⟩ ?_
   intro a94 c94 w94 hO hg94
   replace E := E.sel [true, false, false, true, true, true]
   replace E := E.keepX hg94 hOo.ne (by simp [selB])
   have g := Qj g hg94 (fun k hk => hOo.ge k hk)
   have h := h.keepO hg94 hOo (by omega)
   refine Zx Zi J (Vz Xb J J J E.g1 ?_)
   intro wS5 hgS5 _ BS
   have C8 := E.g1
   replace E := E.s1 hgS5 BS
   have g := Zy g hgS5 (by omega)
   have h := h.keep hgS5 C8 rfl (by omega)
   first | have hO := hO.keept hgS5 C8 rfl | have hO := hO.keep hgS5 (by simp)
   refine Zb (kq (Zg (Zt J (Qv J J (by omega) (Zp J (Wh [(9, _, _), (1, _, _), (2, _, _), (3, _, _), (4, _, _), (5, _, _), (8, _, _), (54, _, _), (55, _, _)] (Za J (Za J (Za J (Za J (Za J (Za J (Za J (Za J (Za J (Zj _)))))))))) (Zb (fun a ha => ?_))))))))
   have hO := hO.sub (Y := [b1, b2, b8]) (by intro j hj; simp at hj ⊢; omega)
   exact ⟨i + 1, ha, ⟨⟨h5, by rw [ea, ed]; exact h, _, E.g1, by rw [ea, ed]; exact hO⟩, g⟩, (Xr (blkE E.g3) (Xr (blkE E.g2) (Ua _))), by omega⟩
  replace h6 : (Zd F i).kind ≠ 2 := of_decide_eq_false h6
  refine Ze (Zg (Xt J J (Zp J (Zb (kq (Yv J (fun h7 => ?_) (fun h7 => ?_)))))))
  ·replace h7 : (Zd F i).kind = 6 := of_decide_eq_true h7
   have ed : dclR F (Zd F i) (dclA F (namA F rs0 F.kids.length) i).2 = (plainT (Zd F i), pointerS F (Zd (Zd F i) 0) (dclA F (namA F rs0 F.kids.length) i).2) := by unfold dclR; rw [Yeg h6, Yfg h7]; rfl
   have hl6 := (pf6 h7 hdp).1
   obtain ⟨eg, pg, cg, hcg, hkg⟩ := Xs hkid (i := 0) (by omega)
   refine Zg (Zt J (Zx Zi J (Yg Zh J (E.g1.at_ J) (Ve Zf J J (by omega) eg (Yk Zc J J hcg (Ya J (Zo Yga Yo (aqc J (aqc J aq0)) J) (Wtb (Zd (Zd F i) 0) _ _ h) ?_))))))
   rintro v84 w84 ⟨rfl, h, g84⟩
   refine ⟨nw1, ?_⟩
   have g := g.trans g84
   replace E := E.gt g84 rfl
   have k69 := k69.gt g84
   have hO := hO.gt g84 rfl
   refine Zb (kq (Zg (?_)))
   first | have kzz := k89 | have kzz := k69
   first | have qzz := q89 | have qzz := q69
   have hO := hO.sub (Y := [b1, b2, b8]) (by intro j hj; simp at hj ⊢; omega)
   refine Zx Zi J (Yg Zh J (E.g2.at_ J) (Yk Zc J J E.g0.row (Yb _ J Zf Zm (pqc J pq0) J J ?_)))
   intro b93 w93 N93
   have l93 := Xm N93 g.size
   have hO := hO.new N93
   have kzz := kzz.new N93
   have g := gtg g N93.g
   have h := h.grow (N93.g)
   replace E := E.new N93
   have hOo := hO
   refine Ur J Zf Zm J (Zk J) hO (Zk J) J E.g0.row (Zra kzz qzz (by intro j hj; simp at hj ⊢; omega) (fun j hj => .inr (by have := hOlt j hj; omega))) (by simp; omega) (by have := g.size; omega) ⟨by have := g.size; omega, by have q1 := E.g5.lt; have q2 := E.g4.lt; have q8 := E.g3.lt; have q93 := E.g0.lt; simp; omega⟩ ?_
   intro a94 c94 w94 hO hg94
   replace E := E.sel [true, false, false, true, true, true]
   replace E := E.keepX hg94 hOo.ne (by simp [selB])
   have g := Qj g hg94 (fun k hk => hOo.ge k hk)
   have h := h.keepO hg94 hOo (by omega)
   refine Zx Zi J (Vz Xb J J J E.g1 ?_)
   intro wS6 hgS6 _ BS
   have C8 := E.g1
   replace E := E.s1 hgS6 BS
   have g := Zy g hgS6 (by omega)
   have h := h.keep hgS6 C8 rfl (by omega)
   first | have hO := hO.keept hgS6 C8 rfl | have hO := hO.keep hgS6 (by simp)
   refine Zb (kq (Zg (Zt J (Qv J J (by omega) (Zp J (Wh [(9, _, _), (1, _, _), (2, _, _), (3, _, _), (4, _, _), (5, _, _), (8, _, _), (54, _, _), (55, _, _)] (Za J (Za J (Za J (Za J (Za J (Za J (Za J (Za J (Za J (Zj _)))))))))) (Zb (fun a ha => ?_))))))))
   have hO := hO.sub (Y := [b1, b2, b8]) (by intro j hj; simp at hj ⊢; omega)
   exact ⟨i + 1, ha, ⟨⟨h5, by rw [ea, ed]; exact h, _, E.g1, by rw [ea, ed]; exact hO⟩, g⟩, (Xr (blkE E.g3) (Xr (blkE E.g2) (Ua _))), by omega⟩
  replace h7 : (Zd F i).kind ≠ 6 := of_decide_eq_false h7
  refine Ze (Zg (Xt J J (Zp J (Zb (kq (Yv J (fun h8 => ?_) (fun h8 => ?_)))))))
  ·replace h8 : (Zd F i).kind = 4 := of_decide_eq_true h8
   have ed : dclR F (Zd F i) (dclA F (namA F rs0 F.kids.length) i).2 = funR F (Zd F i) (dclA F (namA F rs0 F.kids.length) i).2 := by unfold dclR; rw [Yeg h6, Yeg h7, Yfg h8]; rfl
   refine Zg (?_)
   have hOlt := hO.lt
   refine Zt J (Yk Zc J J E.g1.row (Ya J (Zo Jua Yo (aqc J (aqc J aq0)) J) (Xff [b1, b2, b8, b10, b11] H h8 hdp h hkid (by omega) (E.ltm (by simp [selB])) g.size) ?_))
   rintro v89 w89 ⟨⟨p89, c89, rfl, q89, k89⟩, h, g89⟩
   refine ⟨nw1, ?_⟩
   have g := g.trans g89
   replace E := E.gt g89 rfl
   have hcell := hcell.gt g89 hDp
   have k69 := k69.gt g89
   have hO := hO.gt g89 rfl
   refine Yt Zl J J J E.g0 ?_
   intro wS7 hgS7 _ BS
   have C11 := E.g0
   replace E := E.s0 hgS7 BS
   have g := Zy g hgS7 (by omega)
   have h := h.keep hgS7 C11 rfl (by omega)
   have hcell := Ys hcell hgS7 (by omega)
   have k69 := k69.keep hgS7 (by simp)
   have k89 := k89.keep hgS7 (by simp)
   first | have hO := hO.keept hgS7 C11 rfl | have hO := hO.keep hgS7 (by simp)
   refine Zb (kq (Zg (?_)))
   first | have kzz := k89 | have kzz := k69
   first | have qzz := q89 | have qzz := q69
   have hO := hO.sub (Y := [b1, b2, b8]) (by intro j hj; simp at hj ⊢; omega)
   refine Zx Zi J (Yg Zh J (E.g2.at_ J) (Yk Zc J J E.g0.row (Yb _ J Zf Zm (pqc J pq0) J J ?_)))
   intro b93 w93 N93
   have l93 := Xm N93 g.size
   have hO := hO.new N93
   have kzz := kzz.new N93
   have g := gtg g N93.g
   have h := h.grow (N93.g)
   replace E := E.new N93
   have hOo := hO
   refine Ur J Zf Zm J (Zk J) hO (Zk J) J E.g0.row (Zra kzz qzz (by intro j hj; simp at hj ⊢; omega) (fun j hj => .inr (by have := hOlt j hj; omega))) (by simp; omega) (by have := g.size; omega) ⟨by have := g.size; omega, by have q1 := E.g5.lt; have q2 := E.g4.lt; have q8 := E.g3.lt; have q93 := E.g0.lt; simp; omega⟩ ?_
   intro a94 c94 w94 hO hg94
   replace E := E.sel [true, false, false, true, true, true]
   replace E := E.keepX hg94 hOo.ne (by simp [selB])
   have g := Qj g hg94 (fun k hk => hOo.ge k hk)
   have h := h.keepO hg94 hOo (by omega)
   refine Zx Zi J (Vz Xb J J J E.g1 ?_)
   intro wS8 hgS8 _ BS
   have C8 := E.g1
   replace E := E.s1 hgS8 BS
   have g := Zy g hgS8 (by omega)
   have h := h.keep hgS8 C8 rfl (by omega)
   first | have hO := hO.keept hgS8 C8 rfl | have hO := hO.keep hgS8 (by simp)
   refine Zb (kq (Zg (Zt J (Qv J J (by omega) (Zp J (Wh [(9, _, _), (1, _, _), (2, _, _), (3, _, _), (4, _, _), (5, _, _), (8, _, _), (54, _, _), (55, _, _)] (Za J (Za J (Za J (Za J (Za J (Za J (Za J (Za J (Za J (Zj _)))))))))) (Zb (fun a ha => ?_))))))))
   have hO := hO.sub (Y := [b1, b2, b8]) (by intro j hj; simp at hj ⊢; omega)
   exact ⟨i + 1, ha, ⟨⟨h5, by rw [ea, ed]; exact h, _, E.g1, by rw [ea, ed]; exact hO⟩, g⟩, (Xr (blkE E.g3) (Xr (blkE E.g2) (Ua _))), by omega⟩
  replace h8 : (Zd F i).kind ≠ 4 := of_decide_eq_false h8
  have ed : dclR F (Zd F i) (dclA F (namA F rs0 F.kids.length) i).2 = (plainT (Zd F i), (dclA F (namA F rs0 F.kids.length) i).2) := by unfold dclR; rw [Yeg h6, Yeg h7, Yeg h8]; rfl
  refine Yc (kq (Zg (?_)))
  first | have kzz := k89 | have kzz := k69
  first | have qzz := q89 | have qzz := q69
  have hO := hO.sub (Y := [b1, b2, b8]) (by intro j hj; simp at hj ⊢; omega)
  refine Zx Zi J (Yg Zh J (E.g2.at_ J) (Yk Zc J J E.g0.row (Yb _ J Zf Zm (pqc J pq0) J J ?_)))
  intro b93 w93 N93
  have l93 := Xm N93 g.size
  have hO := hO.new N93
  have kzz := kzz.new N93
  have g := gtg g N93.g
  have h := h.grow (N93.g)
  replace E := E.new N93
  have hOo := hO
  refine Ur J Zf Zm J (Zk J) hO (Zk J) J E.g0.row (Zra kzz qzz (by intro j hj; simp at hj ⊢; omega) (fun j hj => .inr (by have := hOlt j hj; omega))) (by simp; omega) (by have := g.size; omega) ⟨by have := g.size; omega, by have q1 := E.g5.lt; have q2 := E.g4.lt; have q8 := E.g3.lt; have q93 := E.g0.lt; simp; omega⟩ ?_
  intro a94 c94 w94 hO hg94
  replace E := E.sel [true, false, false, true, true, true]
  replace E := E.keepX hg94 hOo.ne (by simp [selB])
  have g := Qj g hg94 (fun k hk => hOo.ge k hk)
  have h := h.keepO hg94 hOo (by omega)
  refine Zx Zi J (Vz Xb J J J E.g1 ?_)
  intro wS9 hgS9 _ BS
  have C8 := E.g1
  replace E := E.s1 hgS9 BS
  have g := Zy g hgS9 (by omega)
  have h := h.keep hgS9 C8 rfl (by omega)
  first | have hO := hO.keept hgS9 C8 rfl | have hO := hO.keep hgS9 (by simp)
  refine Zb (kq (Zg (Zt J (Qv J J (by omega) (Zp J (Wh [(9, _, _), (1, _, _), (2, _, _), (3, _, _), (4, _, _), (5, _, _), (8, _, _), (54, _, _), (55, _, _)] (Za J (Za J (Za J (Za J (Za J (Za J (Za J (Za J (Za J (Zj _)))))))))) (Zb (fun a ha => ?_))))))))
  have hO := hO.sub (Y := [b1, b2, b8]) (by intro j hj; simp at hj ⊢; omega)
  exact ⟨i + 1, ha, ⟨⟨h5, by rw [ea, ed]; exact h, _, E.g1, by rw [ea, ed]; exact hO⟩, g⟩, (Xr (blkE E.g3) (Xr (blkE E.g2) (Ua _))), by omega⟩
 replace h5 : i = F.kids.length := by simp only [decide_eq_false_iff_not] at h5; omega
 subst h5
 refine Vq J (kq (Ze (Zg (Yk Zc J J E.g2.row (Ya J (Zo Qy Yo (aqc J (aqc J (aqc J aq0))) J) (Yca F _ _ _ 4 [109, 97, 105, 110] hk0 hcn) ?_)))))
 rintro v98 w98 ⟨⟨p98, c98, rfl, hk98⟩, g98⟩
 refine ⟨fun _ => g98, ?_⟩
 have g := gtg g g98
 replace E := E.grow g98
 have h := h.grow (g98)
 have hO := hO.grow (g98)
 refine Zt J (Qc J J (Qc J J (Yh J Zm J ?_)))
 intro b12 w12 N12
 have l12 := Xm N12 g.size
 have hO := hO.new N12
 have g := gtg g N12.g
 have h := h.grow (N12.g)
 have hk98 := hk98.grow (N12.g)
 replace E := E.new N12
 refine Yt Zl J J J E.g0 ?_
 intro wS10 hgS10 _ BS
 have C12 := E.g0
 replace E := E.s0 hgS10 BS
 have g := Zy g hgS10 (by omega)
 have h := h.keep hgS10 C12 rfl (by omega)
 have hk98 := hk98.keep hgS10 (fun k hk _ e => by injection e with e; omega)
 first | have hO := hO.keept hgS10 C12 rfl | have hO := hO.keep hgS10 (by simp)
 refine Zp J (Zb (kq (Ze (Ze (Zg (Zt J (Zfa J J (Zb (kq (Yv J (fun h9 => ?_) (fun h9 => ?_)))))))))))
 ·have hS : refS F = failS 0 5 (dclA F (namA F rs0 F.kids.length) F.kids.length).2 := by unfold refS Uod; rw [h9]; rfl
  refine Zg (Zt J (Ya J (Zo Yz Yo (aqc J (aqc J (aqc J aq0))) J) (Vj 0 5 h) ?_))
  rintro v104 w104 ⟨rfl, h, g104⟩
  refine ⟨nw1, ?_⟩
  have g := g.trans g104
  replace E := E.gt g104 rfl
  have hO := hO.gt g104 rfl
  refine Zb (kq (Ze (Ze (Zg (?_)))))
  rw [← hS] at h
  obtain ⟨fv, sv, sn, h⟩ := h
  refine Zt J (Ui J (Zx Va J (Yg Zba J (h.B.at_ J) (Wja J J (Zb (kq (Yv J (fun h10 => ?_) (fun h10 => ?_))))))))
  ·have er : refCheck F = (nd0, (refS F).ea, (refS F).ee) := by unfold refCheck; rw [hv, show decide ((refS F).ee = 0) = false by simpa using h10]; rfl
   refine Ze (Ud (rowR (some b2)) [3, 3, 3, 3, 0, 3, 3, 3, 0, 1, 3, 3] [0, 0, 2, 6, 14, 0, 32, 96, 224, 1, 543, 2047] mix (by kernel_rfl) [0, 1, 2, 3, 4, 5, 6, 7, 8, 9, 10, 11] J ?_)
   have g := gtd g
   replace E := E.dr
   have h := h.grow (G.drew _)
   refine Xc 0 J J (fun _ => Js [_, _, _, _, _, _, _, _, _] Zm J Wl (Qk) J) (Xc 1 J J (fun _ => Yl (Zk J)) (Xc 2 J J (fun _ => Jl (Zk J)) (Xc 3 J J (fun _ => Zv Qs (Zk J)) (Vk 4 J J (fun w1 hx => Ye Zu (Zk J) (fun _ => (h.B.keep hx (by intro q; first | (injection q with q; omega) | cases q)).at_ J)) (Xc 5 J J (fun _ => Yl (Zk J)) (Xc 6 J J (fun _ => Jl (Zk J)) (Xc 7 J J (fun _ => Zv Va (Zk J)) (Vk 8 J J (fun w1 hx => Ye Zba (Zk J) (fun _ => (h.B.keep hx (by intro q; first | (injection q with q; omega) | cases q)).at_ J)) (Xo 9 J J ?_)))))))))
   refine Xg (L' := [10, 11]) [3, 3, 3, 3, 0, 3, 3, 3, 0, 2, 3, 3] J J J ?_
   refine Yt Zl J J J E.g2 ?_
   intro wS11 hgS11 _ BS
   replace E := E.s2 hgS11 BS
   have g := Zy g hgS11 (by omega)
   refine Wa (hgS11) ?_
   refine Xc 10 J J (fun _ => Wy (Zk J)) (Xc 11 J J (fun _ => Wy (Zk J)) (Uq [(1, _, _), (2, _, _), (3, _, _), (4, _, _), (5, _, _), (8, _, _), (9, _, _), (12, _, _), (13, _, _), (54, _, _), (55, _, _), (56, _, _), (57, _, _), (58, _, _), (59, _, _), (60, _, _), (96, _, _), (97, _, _), (98, _, _), (99, _, _), (100, _, _), (101, _, _), (102, _, _), (103, _, _), (124, _, _), (125, _, _), (126, _, _), (127, _, _), (128, _, _), (129, _, _), (130, _, _), (131, _, _), (132, _, _), (133, _, _), (134, _, _), (135, _, _), (136, _, _), (137, _, _)] (Za J (Za J (Za J (Za J (Za J (Za J (Za J (Za J (Za J (Za J (Za J (Za J (Za J (Za J (Za J (Za J (Za J (Za J (Za J (Za J (Za J (Za J (Za J (Za J (Za J (Za J (Za J (Za J (Za J (Za J (Za J (Za J (Za J (Za J (Za J (Za J (Za J (Za J (Zj _))))))))))))))))))))))))))))))))))))))) (Up (kq (Zr (Wb (rs := [.cell 2 26, .tmp 3, .tmp 4]) (vs := [_, _, _]) J J (Yy J Zc J (E.g2.row) (Wg J (Wg J (Yf)))) J ?_))))))
   rw [er]
   exact ⟨⟨_, rfl, Vhb nd0 _ _ rfl⟩, Ued (G.refl w) g (by omega)⟩
  have er : refCheck F = (refA F, 0, 0) := by unfold refCheck; rw [hv, show decide ((refS F).ee = 0) = true by simpa using h10]; rfl
  refine Yc (kq (Ze (Zg (Yk Zc J J E.g1.row (Yt Zl J J J E.g2 ?_)))))
  intro wS12 hgS12 _ BS
  have C2 := E.g2
  replace E := E.s2 hgS12 BS
  have g := Zy g hgS12 (by omega)
  first | have hO := hO.keept hgS12 C2 rfl | have hO := hO.keep hgS12 (by simp)
  refine Zp J (Zp J (Zb (kq (Zr (Wb (rs := [.cell 2 26, .tmp 3, .tmp 4]) (vs := [_, _, _]) J J (Yy J Zc J (E.g2.row) (Wg J (Wg J (Yf)))) J ?_)))))
  rw [er]
  exact ⟨⟨_, rfl, Xz (t := annT F _ ty0) rfl hO.kd⟩, Ued (G.refl w) g (by omega)⟩
 have hq : 0 ≤ (findD F 4 [109, 97, 105, 110]).2 := by have := of_decide_eq_false h9; omega
 have hl4 := H.l4 hq
 obtain ⟨eg, pg, cg, hc0, hkg⟩ := Xs hk98 (i := 0) (by omega)
 obtain ⟨_, ph, ch, hc1, hkh⟩ := Xs hk98 (i := 1) (by omega)
 have hDf : pb p98 < n0 := Uja hk98 (show 0 < (findD F 4 [109, 97, 105, 110]).1.kids.length by omega)
 refine Ze (Zg (Zx Zi J (Yg Zh J (E.g0.at_ J) (Ve Zf J J (by omega) eg (Zx Zi J (Yg Zh J (hc0.one (i := 4) J) (Qu Zf J (Ved J J (Zt J (Zn J J J (fun _ => Zv Zi (Zk J)) (Yj J J J (Ye Zh (Zq J id) (fun _ => E.g0.at_ J)) (Zn J J J (fun _ => Wj Zf (Zq J id) Xy (fun _ => by omega) (fun _ => eg)) (Zn J J J (fun _ => Zv Yd (Zq J id)) (Yj J J J (Ye Zu (Zq J id) (fun _ => hc1.one (i := 0) J)) (Zn J J J (fun _ => Wba (Zq J id) Xy) (?_))))))))))))))))
 refine Yi J (fun _ => Xh (Zk J) (Zq J id)) (Zb (kq (Yv J (fun h11 => ?_) (fun h11 => ?_))))
 ·have hS : refS F = failS (findD F 4 [109, 97, 105, 110]).1.pos 7 (dclA F (namA F rs0 F.kids.length) F.kids.length).2 := by unfold refS Uod; rw [h9]; simp only [cond_false]; rw [show (decide (0 < ((Zd (findD F 4 [109, 97, 105, 110]).1 0).kids.length : Int)) || !decide ((Zd (findD F 4 [109, 97, 105, 110]).1 1).kind = 9)) = true from h11]; rfl
  refine Zg (Zt J (Zx Yw J (Yg Zu J (E.g0.at_ J) (Ya J (Zo Yz Yo (aqc J (aqc J (aqc J aq0))) J) (Vj (findD F 4 [109, 97, 105, 110]).1.pos 7 h) ?_))))
  rintro v123 w123 ⟨rfl, h, g123⟩
  refine ⟨nw1, ?_⟩
  have g := g.trans g123
  replace E := E.gt g123 rfl
  have hc0 := hc0.gt g123 hDf
  have hc1 := hc1.gt g123 hDf
  have hO := hO.gt g123 rfl
  refine Zb (kq (Ze (Ze (Zg (?_)))))
  rw [← hS] at h
  obtain ⟨fv, sv, sn, h⟩ := h
  refine Zt J (Ui J (Zx Va J (Yg Zba J (h.B.at_ J) (Wja J J (Zb (kq (Yv J (fun h12 => ?_) (fun h12 => ?_))))))))
  ·have er : refCheck F = (nd0, (refS F).ea, (refS F).ee) := by unfold refCheck; rw [hv, show decide ((refS F).ee = 0) = false by simpa using h12]; rfl
   refine Ze (Ud (rowR (some b2)) [3, 3, 3, 3, 0, 3, 3, 3, 0, 1, 3, 3] [0, 0, 2, 6, 14, 0, 32, 96, 224, 1, 543, 2047] mix (by kernel_rfl) [0, 1, 2, 3, 4, 5, 6, 7, 8, 9, 10, 11] J ?_)
   have g := gtd g
   replace E := E.dr
   have h := h.grow (G.drew _)
   have hc0 := hc0.grow (G.drew _)
   have hc1 := hc1.grow (G.drew _)
   refine Xc 0 J J (fun _ => Js [_, _, _, _, _, _, _, _, _] Zm J Wl (Qk) J) (Xc 1 J J (fun _ => Yl (Zk J)) (Xc 2 J J (fun _ => Jl (Zk J)) (Xc 3 J J (fun _ => Zv Qs (Zk J)) (Vk 4 J J (fun w1 hx => Ye Zu (Zk J) (fun _ => (h.B.keep hx (by intro q; first | (injection q with q; omega) | cases q)).at_ J)) (Xc 5 J J (fun _ => Yl (Zk J)) (Xc 6 J J (fun _ => Jl (Zk J)) (Xc 7 J J (fun _ => Zv Va (Zk J)) (Vk 8 J J (fun w1 hx => Ye Zba (Zk J) (fun _ => (h.B.keep hx (by intro q; first | (injection q with q; omega) | cases q)).at_ J)) (Xo 9 J J ?_)))))))))
   refine Xg (L' := [10, 11]) [3, 3, 3, 3, 0, 3, 3, 3, 0, 2, 3, 3] J J J ?_
   refine Yt Zl J J J E.g2 ?_
   intro wS13 hgS13 _ BS
   replace E := E.s2 hgS13 BS
   have g := Zy g hgS13 (by omega)
   have hc0 := Ys hc0 hgS13 (by omega)
   have hc1 := Ys hc1 hgS13 (by omega)
   refine Wa (hgS13) ?_
   refine Xc 10 J J (fun _ => Wy (Zk J)) (Xc 11 J J (fun _ => Wy (Zk J)) (Uq [(1, _, _), (2, _, _), (3, _, _), (4, _, _), (5, _, _), (8, _, _), (9, _, _), (12, _, _), (13, _, _), (54, _, _), (55, _, _), (56, _, _), (57, _, _), (58, _, _), (59, _, _), (60, _, _), (96, _, _), (97, _, _), (98, _, _), (99, _, _), (100, _, _), (101, _, _), (102, _, _), (105, _, _), (106, _, _), (107, _, _), (108, _, _), (109, _, _), (110, _, _), (111, _, _), (112, _, _), (113, _, _), (114, _, _), (115, _, _), (116, _, _), (117, _, _), (118, _, _), (119, _, _), (120, _, _), (121, _, _), (122, _, _), (124, _, _), (125, _, _), (126, _, _), (127, _, _), (128, _, _), (129, _, _), (130, _, _), (131, _, _), (132, _, _), (133, _, _), (134, _, _), (135, _, _), (136, _, _), (137, _, _)] (Za J (Za J (Za J (Za J (Za J (Za J (Za J (Za J (Za J (Za J (Za J (Za J (Za J (Za J (Za J (Za J (Za J (Za J (Za J (Za J (Za J (Za J (Za J (Za J (Za J (Za J (Za J (Za J (Za J (Za J (Za J (Za J (Za J (Za J (Za J (Za J (Za J (Za J (Za J (Za J (Za J (Za J (Za J (Za J (Za J (Za J (Za J (Za J (Za J (Za J (Za J (Za J (Za J (Za J (Za J (Zj _)))))))))))))))))))))))))))))))))))))))))))))))))))))))) (Up (kq (Zr (Wb (rs := [.cell 2 26, .tmp 3, .tmp 4]) (vs := [_, _, _]) J J (Yy J Zc J (E.g2.row) (Wg J (Wg J (Yf)))) J ?_))))))
   rw [er]
   exact ⟨⟨_, rfl, Vhb nd0 _ _ rfl⟩, Ued (G.refl w) g (by omega)⟩
  have er : refCheck F = (refA F, 0, 0) := by unfold refCheck; rw [hv, show decide ((refS F).ee = 0) = true by simpa using h12]; rfl
  refine Yc (kq (Ze (Zg (Yk Zc J J E.g1.row (Yt Zl J J J E.g2 ?_)))))
  intro wS14 hgS14 _ BS
  have C2 := E.g2
  replace E := E.s2 hgS14 BS
  have g := Zy g hgS14 (by omega)
  have hc0 := Ys hc0 hgS14 (by omega)
  have hc1 := Ys hc1 hgS14 (by omega)
  first | have hO := hO.keept hgS14 C2 rfl | have hO := hO.keep hgS14 (by simp)
  refine Zp J (Zp J (Zb (kq (Zr (Wb (rs := [.cell 2 26, .tmp 3, .tmp 4]) (vs := [_, _, _]) J J (Yy J Zc J (E.g2.row) (Wg J (Wg J (Yf)))) J ?_)))))
  rw [er]
  exact ⟨⟨_, rfl, Xz (t := annT F _ ty0) rfl hO.kd⟩, Ued (G.refl w) g (by omega)⟩
 have hS : refS F = (dclA F (namA F rs0 F.kids.length) F.kids.length).2 := by unfold refS Uod; rw [h9]; simp only [cond_false]; rw [show (decide (0 < ((Zd (findD F 4 [109, 97, 105, 110]).1 0).kids.length : Int)) || !decide ((Zd (findD F 4 [109, 97, 105, 110]).1 1).kind = 9)) = false from h11]; rfl
 refine Yc (kq (Ze (Ze (Zg (?_)))))
 rw [← hS] at h
 obtain ⟨fv, sv, sn, h⟩ := h
 refine Zt J (Ui J (Zx Va J (Yg Zba J (h.B.at_ J) (Wja J J (Zb (kq (Yv J (fun h13 => ?_) (fun h13 => ?_))))))))
 ·have er : refCheck F = (nd0, (refS F).ea, (refS F).ee) := by unfold refCheck; rw [hv, show decide ((refS F).ee = 0) = false by simpa using h13]; rfl
  refine Ze (Ud (rowR (some b2)) [3, 3, 3, 3, 0, 3, 3, 3, 0, 1, 3, 3] [0, 0, 2, 6, 14, 0, 32, 96, 224, 1, 543, 2047] mix (by kernel_rfl) [0, 1, 2, 3, 4, 5, 6, 7, 8, 9, 10, 11] J ?_)
  have g := gtd g
  replace E := E.dr
  have h := h.grow (G.drew _)
  have hc0 := hc0.grow (G.drew _)
  have hc1 := hc1.grow (G.drew _)
  refine Xc 0 J J (fun _ => Js [_, _, _, _, _, _, _, _, _] Zm J Wl (Qk) J) (Xc 1 J J (fun _ => Yl (Zk J)) (Xc 2 J J (fun _ => Jl (Zk J)) (Xc 3 J J (fun _ => Zv Qs (Zk J)) (Vk 4 J J (fun w1 hx => Ye Zu (Zk J) (fun _ => (h.B.keep hx (by intro q; first | (injection q with q; omega) | cases q)).at_ J)) (Xc 5 J J (fun _ => Yl (Zk J)) (Xc 6 J J (fun _ => Jl (Zk J)) (Xc 7 J J (fun _ => Zv Va (Zk J)) (Vk 8 J J (fun w1 hx => Ye Zba (Zk J) (fun _ => (h.B.keep hx (by intro q; first | (injection q with q; omega) | cases q)).at_ J)) (Xo 9 J J ?_)))))))))
  refine Xg (L' := [10, 11]) [3, 3, 3, 3, 0, 3, 3, 3, 0, 2, 3, 3] J J J ?_
  refine Yt Zl J J J E.g2 ?_
  intro wS15 hgS15 _ BS
  replace E := E.s2 hgS15 BS
  have g := Zy g hgS15 (by omega)
  have hc0 := Ys hc0 hgS15 (by omega)
  have hc1 := Ys hc1 hgS15 (by omega)
  refine Wa (hgS15) ?_
  refine Xc 10 J J (fun _ => Wy (Zk J)) (Xc 11 J J (fun _ => Wy (Zk J)) (Uq [(1, _, _), (2, _, _), (3, _, _), (4, _, _), (5, _, _), (8, _, _), (9, _, _), (12, _, _), (13, _, _), (54, _, _), (55, _, _), (56, _, _), (57, _, _), (58, _, _), (59, _, _), (60, _, _), (96, _, _), (97, _, _), (98, _, _), (99, _, _), (100, _, _), (101, _, _), (102, _, _), (105, _, _), (106, _, _), (107, _, _), (108, _, _), (109, _, _), (110, _, _), (111, _, _), (112, _, _), (113, _, _), (114, _, _), (115, _, _), (116, _, _), (117, _, _), (118, _, _), (119, _, _), (124, _, _), (125, _, _), (126, _, _), (127, _, _), (128, _, _), (129, _, _), (130, _, _), (131, _, _), (132, _, _), (133, _, _), (134, _, _), (135, _, _), (136, _, _), (137, _, _)] (Za J (Za J (Za J (Za J (Za J (Za J (Za J (Za J (Za J (Za J (Za J (Za J (Za J (Za J (Za J (Za J (Za J (Za J (Za J (Za J (Za J (Za J (Za J (Za J (Za J (Za J (Za J (Za J (Za J (Za J (Za J (Za J (Za J (Za J (Za J (Za J (Za J (Za J (Za J (Za J (Za J (Za J (Za J (Za J (Za J (Za J (Za J (Za J (Za J (Za J (Za J (Za J (Zj _))))))))))))))))))))))))))))))))))))))))))))))))))))) (Up (kq (Zr (Wb (rs := [.cell 2 26, .tmp 3, .tmp 4]) (vs := [_, _, _]) J J (Yy J Zc J (E.g2.row) (Wg J (Wg J (Yf)))) J ?_))))))
  rw [er]
  exact ⟨⟨_, rfl, Vhb nd0 _ _ rfl⟩, Ued (G.refl w) g (by omega)⟩
 have er : refCheck F = (refA F, 0, 0) := by unfold refCheck; rw [hv, show decide ((refS F).ee = 0) = true by simpa using h13]; rfl
 refine Yc (kq (Ze (Zg (Yk Zc J J E.g1.row (Yt Zl J J J E.g2 ?_)))))
 intro wS16 hgS16 _ BS
 have C2 := E.g2
 replace E := E.s2 hgS16 BS
 have g := Zy g hgS16 (by omega)
 have hc0 := Ys hc0 hgS16 (by omega)
 have hc1 := Ys hc1 hgS16 (by omega)
 first | have hO := hO.keept hgS16 C2 rfl | have hO := hO.keep hgS16 (by simp)
 refine Zp J (Zp J (Zb (kq (Zr (Wb (rs := [.cell 2 26, .tmp 3, .tmp 4]) (vs := [_, _, _]) J J (Yy J Zc J (E.g2.row) (Wg J (Wg J (Yf)))) J ?_)))))
 rw [er]
 exact ⟨⟨_, rfl, Xz (t := annT F _ ty0) rfl hO.kd⟩, Ued (G.refl w) g (by omega)⟩
def xN : Nd := .mk 27 [120] 0 0 [] ty0 0 0
def aw1 : Nd := binN [45] (numT 1) (numT 3)
def aw2 : Nd := binN [47] (numT 1) (numT 0)
def aw3 : Nd := binN [43] (binN [42] (numT 2) (numT 3)) xN
def aw4 : Nd := binN [43] (numT 6) xN
theorem aw1_v : valC aw1 = ((false, -2), true) := by decide +kernel
theorem aw2_v : (valC aw2).2 = false := by decide +kernel
theorem aw3_c : count (printT aw3) ≤ 1000000 := by decide +kernel
theorem aw5_c : count (printedT (fileT (printT aw3))) ≤ 1000000 := by decide +kernel
theorem aw4_e : eqB (printedT (fileT (printT aw3))) aw4 = true := by decide +kernel
theorem Ute (w : World) (hL : Laid w) (hb3 : 4 ≤ w.heap.size) : Ret PP Ynd #[] w fun v w' => v = .bool true ∧ G w w' := by
 have g := G.refl w
 refine Yp (m := 44) Wwc J J [] (Zj _) ?_
 refine Ze (Zg (Zp J (Zb (kq (Ze (Zg (Ya J (Zo Jp Yo (aqc J aq0) J) (Waa _ _) ?_)))))))
 rintro v7 w7 ⟨⟨p7, c7, rfl, hk7⟩, g7⟩
 refine ⟨fun _ => g7, ?_⟩
 have g := g.trans g7
 refine Ya J (Zo Jp Yo (aqc J aq0) J) (Waa _ _) ?_
 rintro v8 w8 ⟨⟨p8, c8, rfl, hk8⟩, g8⟩
 refine ⟨fun _ => g8, ?_⟩
 have g := g.trans g8
 refine Ya J (Zo Yta Yo (aqc J (aqc J (aqc J aq0))) J) (Vda _ _ _ _ _ _ _ _ (hk7.grow g8) hk8) ?_
 rintro v9 w9 ⟨⟨p9, c9, rfl, hk9⟩, g9⟩
 refine ⟨fun _ => g9, ?_⟩
 have g := g.trans g9
 refine Xk J (Zo Uib Yo (aqc J aq0) J) (Zxd aw1 _ _ _ hk9) (fun w10 g10 => ?_)
 have g := g.trans g10
 refine Zt J (Qc J J (Qc J J (Zp J (Zp J (Zb (kq (Ze (Zg (Ya J (Zo Jp Yo (aqc J aq0) J) (Waa _ _) ?_)))))))))
 rintro v14 w14 ⟨⟨p14, c14, rfl, hk14⟩, g14⟩
 refine ⟨fun _ => g14, ?_⟩
 have g := g.trans g14
 refine Ya J (Zo Jp Yo (aqc J aq0) J) (Waa _ _) ?_
 rintro v15 w15 ⟨⟨p15, c15, rfl, hk15⟩, g15⟩
 refine ⟨fun _ => g15, ?_⟩
 have g := g.trans g15
 refine Ya J (Zo Yta Yo (aqc J (aqc J (aqc J aq0))) J) (Vda _ _ _ _ _ _ _ _ (hk14.grow g15) hk15) ?_
 rintro v16 w16 ⟨⟨p16, c16, rfl, hk16⟩, g16⟩
 refine ⟨fun _ => g16, ?_⟩
 have g := g.trans g16
 refine Xk J (Zo Uib Yo (aqc J aq0) J) (Zxd aw2 _ _ _ hk16) (fun w17 g17 => ?_)
 have g := g.trans g17
 refine Zt J (Qc J J (Qc J J (Zp J (Zp J (Zb (kq (Ze (Zg (Ya J (Zo Jp Yo (aqc J aq0) J) (Waa _ _) ?_)))))))))
 rintro v20 w20 ⟨⟨p20, c20, rfl, hk20⟩, g20⟩
 refine ⟨fun _ => g20, ?_⟩
 have g := g.trans g20
 refine Ya J (Zo Jp Yo (aqc J aq0) J) (Waa _ _) ?_
 rintro v21 w21 ⟨⟨p21, c21, rfl, hk21⟩, g21⟩
 refine ⟨fun _ => g21, ?_⟩
 have g := g.trans g21
 refine Ya J (Zo Yta Yo (aqc J (aqc J (aqc J aq0))) J) (Vda _ _ _ _ _ _ _ _ (hk20.grow g21) hk21) ?_
 rintro v22 w22 ⟨⟨p22, c22, rfl, hk22⟩, g22⟩
 refine ⟨fun _ => g22, ?_⟩
 have g := g.trans g22
 refine Uc Zm Wl (pqc J (pqc J pq0)) J J (Ya J (Zo Yta Yo (aqc J (aqc J (aqc J aq0))) J) (Vda _ _ xN _ _ _ (fun _ => False) _ hk22 (Wza _ _)) ?_)
 rintro v24 w24 ⟨⟨p24, c24, rfl, hk24⟩, g24⟩
 refine ⟨fun _ => g24, ?_⟩
 have g := g.trans g24
 have hk24 := hk24.lt
 refine Yh J Zm J ?_
 intro b5 w5 N5
 have l5 := N5.ge g
 have g := g.trans N5.g
 have hk24 := hk24.grow (N5.g)
 have E := (Wo _).new N5
 refine Yt Zl J J J E.g0 ?_
 intro wS1 hgS1 _ BS
 replace E := E.s0 hgS1 BS
 have g := Zw g hgS1 (by omega)
 have hk24 := hk24.keep hgS1 (fun b hb _ he => by injection he with he; have hb := hb.2; have := N5.at_; omega)
 refine Zb (kq (Ze (Zg (?_))))
 rw [aw1_v, aw2_v]
 refine Zt J (Xt J J (Zt J (Zn J J J (fun _ => Yl (Zk J)) (Yi J (fun _ => Zz (Zk J) (Zq J id)) (Zt J (Zn J J J (fun _ => Yl (Zk J)) (Zn J J J (fun _ => Xqa (Zq J id)) (Yi J (fun _ => Zz (Zk J) (Zq J id)) (Zt J (Yj J J J (Xd Zc (Zk J) J (fun _ => E.g0.row)) (Xrb J J J (fun _ => Zo Ypc Yo (Xf (Zq J id) (Xw)) J) (fun hc => Wkd aw3 _ _ _ hk24) ?_)))))))))))
 intro v36 w36 hv36 g36
 have g := g.trans g36
 replace E := E.grow g36
 refine Xrb J J J (fun _ => Zo Qrb Yo (Xf (Zq J id) (Xw)) J) (fun hc => (by obtain ⟨p, c, e, hk⟩ := hv36 hc; rw [e]; exact Qed (printT aw3) _ _ _ (hL.grow g) (by have := g.size; omega) hk aw3_c)) ?_
 intro v37 w37 hv37 g37
 have g := g.trans g37
 replace E := E.grow g37
 refine Xrb J J J (fun _ => Zo Vcc Yo (Xf (Zq J id) (Xw)) J) (fun hc => (by obtain ⟨p, c, e, hk⟩ := hv37 hc; rw [e]; exact Qgd _ _ _ _ hk)) ?_
 intro v38 w38 hv38 g38
 have g := g.trans g38
 replace E := E.grow g38
 refine Xrb J J J (fun _ => Zo Jp Yo (aqc J aq0) J) (fun hc => Waa _ _) ?_
 intro v39 w39 hv39 g39
 have g := g.trans g39
 replace E := E.grow g39
 refine Zn J J J (fun _ => Js [_, _, _, _, _, _, _, _, _] Zm J Wl (Wk Xy (Wk Xy (Qk))) J) (Xrb J J J (fun _ => Zo Yta Yo (Xf Xy (Xf (Zq J id) (Xf (Zq J id) (Xw)))) J) (fun hc => (by obtain ⟨p, c, e, hk⟩ := hv39 hc; rw [e]; exact Vda _ _ xN _ _ _ (fun _ => False) _ hk (Wza _ _))) ?_)
 intro v41 w41 hv41 g41
 have g := g.trans g41
 replace E := E.grow g41
 refine We J J J (fun _ => (Zo Qsb Yo (Xf (Zq J id) (Xf (Zq J id) (Xw))) J)) (fun hc => (show Ret PP _ _ w41 (fun r w' => r = .bool (eqB (printedT (fileT (printT aw3))) aw4) ∧ G w41 w') from by obtain ⟨p, c, e, hk⟩ := hv38 hc; obtain ⟨p', c', e', hk'⟩ := hv41 hc; rw [e, e']; exact Vye _ _ _ _ _ _ _ (hk.grow (g39.trans g41)) hk' aw5_c)) (fun w42 g42 => ?_)
 have g := g.trans g42
 replace E := E.grow g42
 refine Yi J (fun _ => Zz (Zk J) (Zq J id)) (Zp J (Zb (kq (Zr (Yx J J ?_)))))
 refine ⟨Ygg ?_, g⟩
 rw [aw4_e]; rfl
theorem Qxd {t : Nd} (hok : okNd t) : count (fileT t) ≤ count t := by
 rw [fileT]
 cases h : validB t
 ·exact Nat.le_trans (by decide +kernel : count nd0 ≤ 1) (Jo t)
 ·exact (Zzd t (Qza h) hok).2
theorem Uue {F : Nd} (h : (refCheck F).2.2 = 0) : validB F = true := by
 cases hv : validB F
 ·unfold refCheck at h; rw [hv] at h; exact absurd h (show ¬ (1 : Int) = 0 by decide)
 ·rfl
theorem Wqd (t : Nd) (v : Value) (D : Nat → Prop) (w : World) (hL : Laid w) (hb3 : 4 ≤ w.heap.size) (hk : Kd w D t.kids v) (hok : okNd t) (hc : count t ≤ 1048576) : Ret PP Uyb #[ndV t v] w fun r w' => r = .bool true ∧ G w w' := by
 have g := G.refl w
 have hln := Qt t
 have hfc := Qxd hok
 refine Yp (m := 31) Xtb J J [(0, True, _)] (Za J (Zj _)) ?_
 refine Ze (Zg (Wq J (Zk J) J ?_))
 intro b1 w1 N1
 have l1 := N1.ge g
 have g := g.trans N1.g
 have E := (Wo _).new N1
 refine Zp J (Zb (kq (Ze (Ze (Zg (Ya J (Zo Yod Yo (aq0) J) (Ute _ (hL.grow g) (by have := g.size; omega)) ?_))))))
 rintro v9 w9 ⟨rfl, g9⟩
 refine ⟨fun _ => g9, ?_⟩
 have g := g.trans g9
 replace E := E.grow g9
 refine Wia J (Zb (kq (Yv J (fun h1 => ?_) (fun h1 => ?_))))
 ·exfalso; cases h1
  done
 refine Yc (kq (Ze (Ze (Zg (Yk Zc J J E.g0.row (Xk J (Zo Qpb Yo (aqc J aq0) J) (Vme t v D _ (hk.grow g) (by omega)) (fun w12 g12 => ?_)))))))
 have g := g.trans g12
 replace E := E.grow g12
 refine Ved J J (Zb (kq (Yv J (fun h2 => ?_) (fun h2 => ?_))))
 ·(try simp only [Xq] at h2)
  refine Ze (Zg (Zp J (Zb (kq (Zr (Yx J J ?_))))))
  exact ⟨rfl, g⟩
 replace h2 : count t ≤ 250 := by simp only [decide_eq_false_iff_not] at h2; omega
 refine Yc (kq (Ze (Zg (Yk Zc J J E.g0.row (Ya J (Zo Qqb Yo (aqc J aq0) J) (Yed t v D _ (hk.grow g) (by omega)) ?_)))))
 rintro v16 w16 ⟨⟨u16, rfl, p16, c16, rfl, hk16⟩, g16⟩
 refine ⟨fun _ => g16, ?_⟩
 have g := g.trans g16
 replace E := E.grow g16
 refine Zt J (Qc J J (Qc J J (Qc J J (Yh J Zm J ?_))))
 intro b3 w3 N3
 have l3 := N3.ge g
 have g := g.trans N3.g
 replace E := E.new N3
 refine Yt Zl J J J E.g0 ?_
 intro wS1 hgS1 _ BS
 replace E := E.s0 hgS1 BS
 have g := Zw g hgS1 (by omega)
 refine Zp J (Zp J (Zb (kq (Ze (Ze (Zg (Zt J (Wja J J (Zb (kq (Yv J (fun h3 => ?_) (fun h3 => ?_))))))))))))
 ·(try simp only [Xq] at h3)
  refine Ze (Zg (Zp J (Zb (kq (Zr (Yx J J ?_))))))
  exact ⟨rfl, g⟩
 have h3 : (refCheck t).2.2 = 0 := by simpa using h3
 have hv := Uue h3
 have hf : fileT t = foldT t := by unfold fileT; rw [hv]; rfl
 refine Yc (kq (Ze (Zg (Yk Zc J J E.g1.row (Ya J (Zo Qrb Yo (aqc J aq0) J) (Qed t v D _ (hL.grow g) (by have := g.size; omega) (hk.grow g) (by omega)) ?_)))))
 rintro v24 w24 ⟨⟨p24, c24, rfl, hk24⟩, g24⟩
 refine ⟨fun _ => g24, ?_⟩
 have g := g.trans g24
 replace E := E.grow g24
 refine Ya J (Zo Qqb Yo (aqc J aq0) J) (Yed (fileT t) _ _ _ hk24 (by omega)) ?_
 rintro v25 w25 ⟨⟨u25, rfl, p25, c25, rfl, hk25⟩, g25⟩
 refine ⟨fun _ => g25, ?_⟩
 have g := g.trans g25
 replace E := E.grow g25
 refine Zt J (Qc J J (Qc J J (Qc J J (Yh J Zm J ?_))))
 intro b6 w6 N6
 have l6 := N6.ge g
 have g := g.trans N6.g
 replace E := E.new N6
 refine Yt Zl J J J E.g0 ?_
 intro wS2 hgS2 _ BS
 replace E := E.s0 hgS2 BS
 have g := Zw g hgS2 (by omega)
 refine Zp J (Zp J (Zb (kq (Ze (Zg (Zt J (Xt J J (Zp J (Zb (kq (Zr (Yx J J ?_))))))))))))
 refine ⟨Ygg ?_, g⟩
 rw [hf]; exact Yfg (Yqe hv hok h3)
end Go.Rk
